/- Part 2 of a proof of a law over the program: Types, Flat, Facts, Eqs. Conditions: none beyond what each statement says. -/
import Derived.Test.YtjckojnlapchoaaGreatQ01
import Derived.Test.YtjckojnlapchoaaGreatProg
import Derived.KernelRfl
import Derived.Laws.StructEq
set_option linter.unusedVariables false
set_option linter.unusedSimpArgs false
open Go Go.RowKit
namespace Go.Proofs.YtjckojnlapchoaaGreat
structure Elem where
  name : ByteArray
  kind : Int
  length : Int
  deriving Inhabited, DecidableEq
structure Port where
  elem : Int
  fin : Int
  deriving Inhabited, DecidableEq
structure Join where
  a : Port
  b : Port
  deriving Inhabited, DecidableEq
structure Signal where
  name : ByteArray
  at_ : Port
  auto : Bool
  deriving Inhabited, DecidableEq
structure Line where
  name : ByteArray
  elems : List Int
  deriving Inhabited, DecidableEq
structure Plan where
  elems : List Elem
  joins : List Join
  signals : List Signal
  lines : List Line
  top : Int
  brake : Int
  margin : Int
  throw_ : Int
  hard : Bool
  deriving Inhabited, DecidableEq
structure Way where
  out : Int
  pos : Int
  deriving Inhabited, DecidableEq
structure Step where
  elem : Int
  inn : Int
  out : Int
  deriving Inhabited, DecidableEq
structure Need where
  elem : Int
  pos : Int
  deriving Inhabited, DecidableEq
structure Road where
  from_ : Int
  to : Int
  fin : Int
  steps : List Step
  needs : List Need
  guards : List Need
  zone : List Int
  holds : List Int
  bare : Bool
  deriving Inhabited, DecidableEq
structure Chart where
  plan : Plan
  roads : List Road
  deriving Inhabited, DecidableEq
structure Life where
  state : Int
  front : Int
  off : Bool
  seen : List Bool
  deriving Inhabited, DecidableEq
structure In where
  occ : List Bool
  pos : List Int
  loop : List Bool
  held : List Bool
  deriving Inhabited, DecidableEq
structure Out where
  aspects : List Int
  targets : List Int
  answers : List Int
  deriving Inhabited, DecidableEq
structure Stock where
  name : ByteArray
  len : Int
  top : Int
  acc : Int
  brake : Int
  deriving Inhabited, DecidableEq
structure Train where
  name : ByteArray
  stock : Int
  at_ : Port
  left : Int
  deriving Inhabited, DecidableEq
structure Body where
  mode : Int
  trail : List Port
  left : Int
  over : Int
  v : Int
  deriving Inhabited, DecidableEq
structure Act where
  want : Int
  turn : Bool
  deriving Inhabited, DecidableEq
structure Fail where
  kind : Int
  which : Int
  on : Bool
  deriving Inhabited, DecidableEq
structure Note where
  pos : List Int
  lamps : List Int
  bodies : List Body
  deriving Inhabited, DecidableEq
structure Move where
  calls : List Int
  cancels : List Int
  fails : List Fail
  acts : List Act
  deriving Inhabited, DecidableEq
structure Turn where
  line : Int
  lead : Int
  deriving Inhabited, DecidableEq
def Elem.cells (x : Elem) : List Value := [.string x.name, .int .i64 x.kind, .int .i64 x.length]
def tElem : Tell Elem := Tell.flat 3 Elem.cells (fun _ => rfl) (fun _ v hv => by simp [Elem.cells] at hv; rcases hv with rfl | rfl | rfl <;> rfl)
theorem next_Elem {G : Gh} {A : Option Addr} {n c : Nat} {xs : List Elem} (h : Sl tElem G A n c xs) {k : Nat} {x : Elem} {rest : List Elem} (hd : xs.drop k = x :: rest) : ∃ b o, A = some ⟨b, o, none⟩ ∧ k < n ∧ xs.drop (k + 1) = rest ∧ G.cell b (o + k * 3) = some (.string x.name) ∧ G.cell b (o + k * 3 + 1) = some (.int .i64 x.kind) ∧ G.cell b (o + k * 3 + 2) = some (.int .i64 x.length) := by
  obtain ⟨b, o, cs, rfl, hk, hrest, _, hc, hr⟩ := h.next hd
  obtain rfl : cs = _ := hr
  exact ⟨b, o, rfl, hk, hrest, hc 0 _ rfl, hc 1 _ rfl, hc 2 _ rfl⟩
theorem get_Elem {G : Gh} {A : Option Addr} {n c : Nat} {xs : List Elem} (h : Sl tElem G A n c xs) {k : Nat} {x : Elem} (hd : xs[k]? = some x) : ∃ b o, A = some ⟨b, o, none⟩ ∧ k < n ∧ G.cell b (o + k * 3) = some (.string x.name) ∧ G.cell b (o + k * 3 + 1) = some (.int .i64 x.kind) ∧ G.cell b (o + k * 3 + 2) = some (.int .i64 x.length) := by
  obtain ⟨b, o, cs, rfl, hk, _, hc, hr⟩ := h.get hd
  obtain rfl : cs = _ := hr
  exact ⟨b, o, rfl, hk,  hc 0 _ rfl, hc 1 _ rfl, hc 2 _ rfl⟩
def Port.cells (x : Port) : List Value := [.int .i64 x.elem, .int .i64 x.fin]
def tPort : Tell Port := Tell.flat 2 Port.cells (fun _ => rfl) (fun _ v hv => by simp [Port.cells] at hv; rcases hv with rfl | rfl <;> rfl)
theorem next_Port {G : Gh} {A : Option Addr} {n c : Nat} {xs : List Port} (h : Sl tPort G A n c xs) {k : Nat} {x : Port} {rest : List Port} (hd : xs.drop k = x :: rest) : ∃ b o, A = some ⟨b, o, none⟩ ∧ k < n ∧ xs.drop (k + 1) = rest ∧ G.cell b (o + k * 2) = some (.int .i64 x.elem) ∧ G.cell b (o + k * 2 + 1) = some (.int .i64 x.fin) := by
  obtain ⟨b, o, cs, rfl, hk, hrest, _, hc, hr⟩ := h.next hd
  obtain rfl : cs = _ := hr
  exact ⟨b, o, rfl, hk, hrest, hc 0 _ rfl, hc 1 _ rfl⟩
theorem get_Port {G : Gh} {A : Option Addr} {n c : Nat} {xs : List Port} (h : Sl tPort G A n c xs) {k : Nat} {x : Port} (hd : xs[k]? = some x) : ∃ b o, A = some ⟨b, o, none⟩ ∧ k < n ∧ G.cell b (o + k * 2) = some (.int .i64 x.elem) ∧ G.cell b (o + k * 2 + 1) = some (.int .i64 x.fin) := by
  obtain ⟨b, o, cs, rfl, hk, _, hc, hr⟩ := h.get hd
  obtain rfl : cs = _ := hr
  exact ⟨b, o, rfl, hk,  hc 0 _ rfl, hc 1 _ rfl⟩
def Join.cells (x : Join) : List Value := [.int .i64 x.a.elem, .int .i64 x.a.fin, .int .i64 x.b.elem, .int .i64 x.b.fin]
def tJoin : Tell Join := Tell.flat 4 Join.cells (fun _ => rfl) (fun _ v hv => by simp [Join.cells] at hv; rcases hv with rfl | rfl | rfl | rfl <;> rfl)
theorem next_Join {G : Gh} {A : Option Addr} {n c : Nat} {xs : List Join} (h : Sl tJoin G A n c xs) {k : Nat} {x : Join} {rest : List Join} (hd : xs.drop k = x :: rest) : ∃ b o, A = some ⟨b, o, none⟩ ∧ k < n ∧ xs.drop (k + 1) = rest ∧ G.cell b (o + k * 4) = some (.int .i64 x.a.elem) ∧ G.cell b (o + k * 4 + 1) = some (.int .i64 x.a.fin) ∧ G.cell b (o + k * 4 + 2) = some (.int .i64 x.b.elem) ∧ G.cell b (o + k * 4 + 3) = some (.int .i64 x.b.fin) := by
  obtain ⟨b, o, cs, rfl, hk, hrest, _, hc, hr⟩ := h.next hd
  obtain rfl : cs = _ := hr
  exact ⟨b, o, rfl, hk, hrest, hc 0 _ rfl, hc 1 _ rfl, hc 2 _ rfl, hc 3 _ rfl⟩
def Signal.cells (x : Signal) : List Value := [.string x.name, .int .i64 x.at_.elem, .int .i64 x.at_.fin, .bool x.auto]
def tSignal : Tell Signal := Tell.flat 4 Signal.cells (fun _ => rfl) (fun _ v hv => by simp [Signal.cells] at hv; rcases hv with rfl | rfl | rfl | rfl <;> rfl)
theorem next_Signal {G : Gh} {A : Option Addr} {n c : Nat} {xs : List Signal} (h : Sl tSignal G A n c xs) {k : Nat} {x : Signal} {rest : List Signal} (hd : xs.drop k = x :: rest) : ∃ b o, A = some ⟨b, o, none⟩ ∧ k < n ∧ xs.drop (k + 1) = rest ∧ G.cell b (o + k * 4) = some (.string x.name) ∧ G.cell b (o + k * 4 + 1) = some (.int .i64 x.at_.elem) ∧ G.cell b (o + k * 4 + 2) = some (.int .i64 x.at_.fin) ∧ G.cell b (o + k * 4 + 3) = some (.bool x.auto) := by
  obtain ⟨b, o, cs, rfl, hk, hrest, _, hc, hr⟩ := h.next hd
  obtain rfl : cs = _ := hr
  exact ⟨b, o, rfl, hk, hrest, hc 0 _ rfl, hc 1 _ rfl, hc 2 _ rfl, hc 3 _ rfl⟩
theorem get_Signal {G : Gh} {A : Option Addr} {n c : Nat} {xs : List Signal} (h : Sl tSignal G A n c xs) {k : Nat} {x : Signal} (hd : xs[k]? = some x) : ∃ b o, A = some ⟨b, o, none⟩ ∧ k < n ∧ G.cell b (o + k * 4) = some (.string x.name) ∧ G.cell b (o + k * 4 + 1) = some (.int .i64 x.at_.elem) ∧ G.cell b (o + k * 4 + 2) = some (.int .i64 x.at_.fin) ∧ G.cell b (o + k * 4 + 3) = some (.bool x.auto) := by
  obtain ⟨b, o, cs, rfl, hk, _, hc, hr⟩ := h.get hd
  obtain rfl : cs = _ := hr
  exact ⟨b, o, rfl, hk,  hc 0 _ rfl, hc 1 _ rfl, hc 2 _ rfl, hc 3 _ rfl⟩
structure Line.At (G : Gh) (A1 : Option Addr) (n1 c1 : Nat) (x : Line) : Prop where
  h1 : Sl tInt G A1 n1 c1 x.elems
theorem Line.At.le {G G' : Gh} {A1 : Option Addr} {n1 c1 : Nat} {x : Line} (h : Line.At G A1 n1 c1 x) (e : G.le G') : Line.At G' A1 n1 c1 x := ⟨h.h1.le e⟩
def tLine : Tell Line where
  sz := 2
  R := fun G cs x => ∃ A1 n1 c1, cs = [.string x.name, .slice A1 n1 c1] ∧ Line.At G A1 n1 c1 x
  len := by rintro G cs x ⟨A1, n1, c1, rfl, _⟩; rfl
  le := by rintro G G' cs x e ⟨A1, n1, c1, rfl, h⟩; exact ⟨_, _, _, rfl, h.le e⟩
  one := by rintro G cs x ⟨A1, n1, c1, rfl, _⟩ v hv; simp at hv; rcases hv with rfl | rfl <;> rfl
theorem next_Line {G : Gh} {A : Option Addr} {n c : Nat} {xs : List Line} (h : Sl tLine G A n c xs) {k : Nat} {x : Line} {rest : List Line} (hd : xs.drop k = x :: rest) : ∃ b o A1 n1 c1, A = some ⟨b, o, none⟩ ∧ k < n ∧ xs.drop (k + 1) = rest ∧ G.cell b (o + k * 2) = some (.string x.name) ∧ G.cell b (o + k * 2 + 1) = some (.slice A1 n1 c1) ∧ Line.At G A1 n1 c1 x := by
  obtain ⟨b, o, cs, rfl, hk, hrest, _, hc, hr⟩ := h.next hd
  obtain ⟨A1, n1, c1, rfl, hr⟩ := hr
  exact ⟨b, o, A1, n1, c1, rfl, hk, hrest, hc 0 _ rfl, hc 1 _ rfl, hr⟩
theorem get_Line {G : Gh} {A : Option Addr} {n c : Nat} {xs : List Line} (h : Sl tLine G A n c xs) {k : Nat} {x : Line} (hd : xs[k]? = some x) : ∃ b o A1 n1 c1, A = some ⟨b, o, none⟩ ∧ k < n ∧ G.cell b (o + k * 2) = some (.string x.name) ∧ G.cell b (o + k * 2 + 1) = some (.slice A1 n1 c1) ∧ Line.At G A1 n1 c1 x := by
  obtain ⟨b, o, cs, rfl, hk, _, hc, hr⟩ := h.get hd
  obtain ⟨A1, n1, c1, rfl, hr⟩ := hr
  exact ⟨b, o, A1, n1, c1, rfl, hk,  hc 0 _ rfl, hc 1 _ rfl, hr⟩
structure Plan.At (G : Gh) (A1 : Option Addr) (n1 c1 : Nat) (A2 : Option Addr) (n2 c2 : Nat) (A3 : Option Addr) (n3 c3 : Nat) (A4 : Option Addr) (n4 c4 : Nat) (x : Plan) : Prop where
  h1 : Sl tElem G A1 n1 c1 x.elems
  h2 : Sl tJoin G A2 n2 c2 x.joins
  h3 : Sl tSignal G A3 n3 c3 x.signals
  h4 : Sl tLine G A4 n4 c4 x.lines
theorem Plan.At.le {G G' : Gh} {A1 : Option Addr} {n1 c1 : Nat} {A2 : Option Addr} {n2 c2 : Nat} {A3 : Option Addr} {n3 c3 : Nat} {A4 : Option Addr} {n4 c4 : Nat} {x : Plan} (h : Plan.At G A1 n1 c1 A2 n2 c2 A3 n3 c3 A4 n4 c4 x) (e : G.le G') : Plan.At G' A1 n1 c1 A2 n2 c2 A3 n3 c3 A4 n4 c4 x := ⟨h.h1.le e, h.h2.le e, h.h3.le e, h.h4.le e⟩
def tPlan : Tell Plan where
  sz := 9
  R := fun G cs x => ∃ A1 n1 c1 A2 n2 c2 A3 n3 c3 A4 n4 c4, cs = [.slice A1 n1 c1, .slice A2 n2 c2, .slice A3 n3 c3, .slice A4 n4 c4, .int .i64 x.top, .int .i64 x.brake, .int .i64 x.margin, .int .i64 x.throw_, .bool x.hard] ∧ Plan.At G A1 n1 c1 A2 n2 c2 A3 n3 c3 A4 n4 c4 x
  len := by rintro G cs x ⟨A1, n1, c1, A2, n2, c2, A3, n3, c3, A4, n4, c4, rfl, _⟩; rfl
  le := by rintro G G' cs x e ⟨A1, n1, c1, A2, n2, c2, A3, n3, c3, A4, n4, c4, rfl, h⟩; exact ⟨_, _, _, _, _, _, _, _, _, _, _, _, rfl, h.le e⟩
  one := by rintro G cs x ⟨A1, n1, c1, A2, n2, c2, A3, n3, c3, A4, n4, c4, rfl, _⟩ v hv; simp at hv; rcases hv with rfl | rfl | rfl | rfl | rfl | rfl | rfl | rfl | rfl <;> rfl
def Way.cells (x : Way) : List Value := [.int .i64 x.out, .int .i64 x.pos]
def tWay : Tell Way := Tell.flat 2 Way.cells (fun _ => rfl) (fun _ v hv => by simp [Way.cells] at hv; rcases hv with rfl | rfl <;> rfl)
theorem next_Way {G : Gh} {A : Option Addr} {n c : Nat} {xs : List Way} (h : Sl tWay G A n c xs) {k : Nat} {x : Way} {rest : List Way} (hd : xs.drop k = x :: rest) : ∃ b o, A = some ⟨b, o, none⟩ ∧ k < n ∧ xs.drop (k + 1) = rest ∧ G.cell b (o + k * 2) = some (.int .i64 x.out) ∧ G.cell b (o + k * 2 + 1) = some (.int .i64 x.pos) := by
  obtain ⟨b, o, cs, rfl, hk, hrest, _, hc, hr⟩ := h.next hd
  obtain rfl : cs = _ := hr
  exact ⟨b, o, rfl, hk, hrest, hc 0 _ rfl, hc 1 _ rfl⟩
theorem get_Way {G : Gh} {A : Option Addr} {n c : Nat} {xs : List Way} (h : Sl tWay G A n c xs) {k : Nat} {x : Way} (hd : xs[k]? = some x) : ∃ b o, A = some ⟨b, o, none⟩ ∧ k < n ∧ G.cell b (o + k * 2) = some (.int .i64 x.out) ∧ G.cell b (o + k * 2 + 1) = some (.int .i64 x.pos) := by
  obtain ⟨b, o, cs, rfl, hk, _, hc, hr⟩ := h.get hd
  obtain rfl : cs = _ := hr
  exact ⟨b, o, rfl, hk,  hc 0 _ rfl, hc 1 _ rfl⟩
def Step.cells (x : Step) : List Value := [.int .i64 x.elem, .int .i64 x.inn, .int .i64 x.out]
def tStep : Tell Step := Tell.flat 3 Step.cells (fun _ => rfl) (fun _ v hv => by simp [Step.cells] at hv; rcases hv with rfl | rfl | rfl <;> rfl)
theorem next_Step {G : Gh} {A : Option Addr} {n c : Nat} {xs : List Step} (h : Sl tStep G A n c xs) {k : Nat} {x : Step} {rest : List Step} (hd : xs.drop k = x :: rest) : ∃ b o, A = some ⟨b, o, none⟩ ∧ k < n ∧ xs.drop (k + 1) = rest ∧ G.cell b (o + k * 3) = some (.int .i64 x.elem) ∧ G.cell b (o + k * 3 + 1) = some (.int .i64 x.inn) ∧ G.cell b (o + k * 3 + 2) = some (.int .i64 x.out) := by
  obtain ⟨b, o, cs, rfl, hk, hrest, _, hc, hr⟩ := h.next hd
  obtain rfl : cs = _ := hr
  exact ⟨b, o, rfl, hk, hrest, hc 0 _ rfl, hc 1 _ rfl, hc 2 _ rfl⟩
def Need.cells (x : Need) : List Value := [.int .i64 x.elem, .int .i64 x.pos]
def tNeed : Tell Need := Tell.flat 2 Need.cells (fun _ => rfl) (fun _ v hv => by simp [Need.cells] at hv; rcases hv with rfl | rfl <;> rfl)
theorem next_Need {G : Gh} {A : Option Addr} {n c : Nat} {xs : List Need} (h : Sl tNeed G A n c xs) {k : Nat} {x : Need} {rest : List Need} (hd : xs.drop k = x :: rest) : ∃ b o, A = some ⟨b, o, none⟩ ∧ k < n ∧ xs.drop (k + 1) = rest ∧ G.cell b (o + k * 2) = some (.int .i64 x.elem) ∧ G.cell b (o + k * 2 + 1) = some (.int .i64 x.pos) := by
  obtain ⟨b, o, cs, rfl, hk, hrest, _, hc, hr⟩ := h.next hd
  obtain rfl : cs = _ := hr
  exact ⟨b, o, rfl, hk, hrest, hc 0 _ rfl, hc 1 _ rfl⟩
structure Road.At (G : Gh) (A1 : Option Addr) (n1 c1 : Nat) (A2 : Option Addr) (n2 c2 : Nat) (A3 : Option Addr) (n3 c3 : Nat) (A4 : Option Addr) (n4 c4 : Nat) (A5 : Option Addr) (n5 c5 : Nat) (x : Road) : Prop where
  h1 : Sl tStep G A1 n1 c1 x.steps
  h2 : Sl tNeed G A2 n2 c2 x.needs
  h3 : Sl tNeed G A3 n3 c3 x.guards
  h4 : Sl tInt G A4 n4 c4 x.zone
  h5 : Sl tInt G A5 n5 c5 x.holds
theorem Road.At.le {G G' : Gh} {A1 : Option Addr} {n1 c1 : Nat} {A2 : Option Addr} {n2 c2 : Nat} {A3 : Option Addr} {n3 c3 : Nat} {A4 : Option Addr} {n4 c4 : Nat} {A5 : Option Addr} {n5 c5 : Nat} {x : Road} (h : Road.At G A1 n1 c1 A2 n2 c2 A3 n3 c3 A4 n4 c4 A5 n5 c5 x) (e : G.le G') : Road.At G' A1 n1 c1 A2 n2 c2 A3 n3 c3 A4 n4 c4 A5 n5 c5 x := ⟨h.h1.le e, h.h2.le e, h.h3.le e, h.h4.le e, h.h5.le e⟩
def tRoad : Tell Road where
  sz := 9
  R := fun G cs x => ∃ A1 n1 c1 A2 n2 c2 A3 n3 c3 A4 n4 c4 A5 n5 c5, cs = [.int .i64 x.from_, .int .i64 x.to, .int .i64 x.fin, .slice A1 n1 c1, .slice A2 n2 c2, .slice A3 n3 c3, .slice A4 n4 c4, .slice A5 n5 c5, .bool x.bare] ∧ Road.At G A1 n1 c1 A2 n2 c2 A3 n3 c3 A4 n4 c4 A5 n5 c5 x
  len := by rintro G cs x ⟨A1, n1, c1, A2, n2, c2, A3, n3, c3, A4, n4, c4, A5, n5, c5, rfl, _⟩; rfl
  le := by rintro G G' cs x e ⟨A1, n1, c1, A2, n2, c2, A3, n3, c3, A4, n4, c4, A5, n5, c5, rfl, h⟩; exact ⟨_, _, _, _, _, _, _, _, _, _, _, _, _, _, _, rfl, h.le e⟩
  one := by rintro G cs x ⟨A1, n1, c1, A2, n2, c2, A3, n3, c3, A4, n4, c4, A5, n5, c5, rfl, _⟩ v hv; simp at hv; rcases hv with rfl | rfl | rfl | rfl | rfl | rfl | rfl | rfl | rfl <;> rfl
theorem next_Road {G : Gh} {A : Option Addr} {n c : Nat} {xs : List Road} (h : Sl tRoad G A n c xs) {k : Nat} {x : Road} {rest : List Road} (hd : xs.drop k = x :: rest) : ∃ b o A1 n1 c1 A2 n2 c2 A3 n3 c3 A4 n4 c4 A5 n5 c5, A = some ⟨b, o, none⟩ ∧ k < n ∧ xs.drop (k + 1) = rest ∧ G.cell b (o + k * 9) = some (.int .i64 x.from_) ∧ G.cell b (o + k * 9 + 1) = some (.int .i64 x.to) ∧ G.cell b (o + k * 9 + 2) = some (.int .i64 x.fin) ∧ G.cell b (o + k * 9 + 3) = some (.slice A1 n1 c1) ∧ G.cell b (o + k * 9 + 4) = some (.slice A2 n2 c2) ∧ G.cell b (o + k * 9 + 5) = some (.slice A3 n3 c3) ∧ G.cell b (o + k * 9 + 6) = some (.slice A4 n4 c4) ∧ G.cell b (o + k * 9 + 7) = some (.slice A5 n5 c5) ∧ G.cell b (o + k * 9 + 8) = some (.bool x.bare) ∧ Road.At G A1 n1 c1 A2 n2 c2 A3 n3 c3 A4 n4 c4 A5 n5 c5 x := by
  obtain ⟨b, o, cs, rfl, hk, hrest, _, hc, hr⟩ := h.next hd
  obtain ⟨A1, n1, c1, A2, n2, c2, A3, n3, c3, A4, n4, c4, A5, n5, c5, rfl, hr⟩ := hr
  exact ⟨b, o, A1, n1, c1, A2, n2, c2, A3, n3, c3, A4, n4, c4, A5, n5, c5, rfl, hk, hrest, hc 0 _ rfl, hc 1 _ rfl, hc 2 _ rfl, hc 3 _ rfl, hc 4 _ rfl, hc 5 _ rfl, hc 6 _ rfl, hc 7 _ rfl, hc 8 _ rfl, hr⟩
structure Chart.At (G : Gh) (A1 : Option Addr) (n1 c1 : Nat) (A2 : Option Addr) (n2 c2 : Nat) (A3 : Option Addr) (n3 c3 : Nat) (A4 : Option Addr) (n4 c4 : Nat) (A5 : Option Addr) (n5 c5 : Nat) (x : Chart) : Prop where
  h1 : Sl tElem G A1 n1 c1 x.plan.elems
  h2 : Sl tJoin G A2 n2 c2 x.plan.joins
  h3 : Sl tSignal G A3 n3 c3 x.plan.signals
  h4 : Sl tLine G A4 n4 c4 x.plan.lines
  h5 : Sl tRoad G A5 n5 c5 x.roads
theorem Chart.At.le {G G' : Gh} {A1 : Option Addr} {n1 c1 : Nat} {A2 : Option Addr} {n2 c2 : Nat} {A3 : Option Addr} {n3 c3 : Nat} {A4 : Option Addr} {n4 c4 : Nat} {A5 : Option Addr} {n5 c5 : Nat} {x : Chart} (h : Chart.At G A1 n1 c1 A2 n2 c2 A3 n3 c3 A4 n4 c4 A5 n5 c5 x) (e : G.le G') : Chart.At G' A1 n1 c1 A2 n2 c2 A3 n3 c3 A4 n4 c4 A5 n5 c5 x := ⟨h.h1.le e, h.h2.le e, h.h3.le e, h.h4.le e, h.h5.le e⟩
def tChart : Tell Chart where
  sz := 10
  R := fun G cs x => ∃ A1 n1 c1 A2 n2 c2 A3 n3 c3 A4 n4 c4 A5 n5 c5, cs = [.slice A1 n1 c1, .slice A2 n2 c2, .slice A3 n3 c3, .slice A4 n4 c4, .int .i64 x.plan.top, .int .i64 x.plan.brake, .int .i64 x.plan.margin, .int .i64 x.plan.throw_, .bool x.plan.hard, .slice A5 n5 c5] ∧ Chart.At G A1 n1 c1 A2 n2 c2 A3 n3 c3 A4 n4 c4 A5 n5 c5 x
  len := by rintro G cs x ⟨A1, n1, c1, A2, n2, c2, A3, n3, c3, A4, n4, c4, A5, n5, c5, rfl, _⟩; rfl
  le := by rintro G G' cs x e ⟨A1, n1, c1, A2, n2, c2, A3, n3, c3, A4, n4, c4, A5, n5, c5, rfl, h⟩; exact ⟨_, _, _, _, _, _, _, _, _, _, _, _, _, _, _, rfl, h.le e⟩
  one := by rintro G cs x ⟨A1, n1, c1, A2, n2, c2, A3, n3, c3, A4, n4, c4, A5, n5, c5, rfl, _⟩ v hv; simp at hv; rcases hv with rfl | rfl | rfl | rfl | rfl | rfl | rfl | rfl | rfl | rfl <;> rfl
structure Life.At (G : Gh) (A1 : Option Addr) (n1 c1 : Nat) (x : Life) : Prop where
  h1 : Sl tBool G A1 n1 c1 x.seen
theorem Life.At.le {G G' : Gh} {A1 : Option Addr} {n1 c1 : Nat} {x : Life} (h : Life.At G A1 n1 c1 x) (e : G.le G') : Life.At G' A1 n1 c1 x := ⟨h.h1.le e⟩
def tLife : Tell Life where
  sz := 4
  R := fun G cs x => ∃ A1 n1 c1, cs = [.int .i64 x.state, .int .i64 x.front, .bool x.off, .slice A1 n1 c1] ∧ Life.At G A1 n1 c1 x
  len := by rintro G cs x ⟨A1, n1, c1, rfl, _⟩; rfl
  le := by rintro G G' cs x e ⟨A1, n1, c1, rfl, h⟩; exact ⟨_, _, _, rfl, h.le e⟩
  one := by rintro G cs x ⟨A1, n1, c1, rfl, _⟩ v hv; simp at hv; rcases hv with rfl | rfl | rfl | rfl <;> rfl
structure In.At (G : Gh) (A1 : Option Addr) (n1 c1 : Nat) (A2 : Option Addr) (n2 c2 : Nat) (A3 : Option Addr) (n3 c3 : Nat) (A4 : Option Addr) (n4 c4 : Nat) (x : In) : Prop where
  h1 : Sl tBool G A1 n1 c1 x.occ
  h2 : Sl tInt G A2 n2 c2 x.pos
  h3 : Sl tBool G A3 n3 c3 x.loop
  h4 : Sl tBool G A4 n4 c4 x.held
theorem In.At.le {G G' : Gh} {A1 : Option Addr} {n1 c1 : Nat} {A2 : Option Addr} {n2 c2 : Nat} {A3 : Option Addr} {n3 c3 : Nat} {A4 : Option Addr} {n4 c4 : Nat} {x : In} (h : In.At G A1 n1 c1 A2 n2 c2 A3 n3 c3 A4 n4 c4 x) (e : G.le G') : In.At G' A1 n1 c1 A2 n2 c2 A3 n3 c3 A4 n4 c4 x := ⟨h.h1.le e, h.h2.le e, h.h3.le e, h.h4.le e⟩
def tIn : Tell In where
  sz := 4
  R := fun G cs x => ∃ A1 n1 c1 A2 n2 c2 A3 n3 c3 A4 n4 c4, cs = [.slice A1 n1 c1, .slice A2 n2 c2, .slice A3 n3 c3, .slice A4 n4 c4] ∧ In.At G A1 n1 c1 A2 n2 c2 A3 n3 c3 A4 n4 c4 x
  len := by rintro G cs x ⟨A1, n1, c1, A2, n2, c2, A3, n3, c3, A4, n4, c4, rfl, _⟩; rfl
  le := by rintro G G' cs x e ⟨A1, n1, c1, A2, n2, c2, A3, n3, c3, A4, n4, c4, rfl, h⟩; exact ⟨_, _, _, _, _, _, _, _, _, _, _, _, rfl, h.le e⟩
  one := by rintro G cs x ⟨A1, n1, c1, A2, n2, c2, A3, n3, c3, A4, n4, c4, rfl, _⟩ v hv; simp at hv; rcases hv with rfl | rfl | rfl | rfl <;> rfl
structure Out.At (G : Gh) (A1 : Option Addr) (n1 c1 : Nat) (A2 : Option Addr) (n2 c2 : Nat) (A3 : Option Addr) (n3 c3 : Nat) (x : Out) : Prop where
  h1 : Sl tInt G A1 n1 c1 x.aspects
  h2 : Sl tInt G A2 n2 c2 x.targets
  h3 : Sl tInt G A3 n3 c3 x.answers
theorem Out.At.le {G G' : Gh} {A1 : Option Addr} {n1 c1 : Nat} {A2 : Option Addr} {n2 c2 : Nat} {A3 : Option Addr} {n3 c3 : Nat} {x : Out} (h : Out.At G A1 n1 c1 A2 n2 c2 A3 n3 c3 x) (e : G.le G') : Out.At G' A1 n1 c1 A2 n2 c2 A3 n3 c3 x := ⟨h.h1.le e, h.h2.le e, h.h3.le e⟩
def tOut : Tell Out where
  sz := 3
  R := fun G cs x => ∃ A1 n1 c1 A2 n2 c2 A3 n3 c3, cs = [.slice A1 n1 c1, .slice A2 n2 c2, .slice A3 n3 c3] ∧ Out.At G A1 n1 c1 A2 n2 c2 A3 n3 c3 x
  len := by rintro G cs x ⟨A1, n1, c1, A2, n2, c2, A3, n3, c3, rfl, _⟩; rfl
  le := by rintro G G' cs x e ⟨A1, n1, c1, A2, n2, c2, A3, n3, c3, rfl, h⟩; exact ⟨_, _, _, _, _, _, _, _, _, rfl, h.le e⟩
  one := by rintro G cs x ⟨A1, n1, c1, A2, n2, c2, A3, n3, c3, rfl, _⟩ v hv; simp at hv; rcases hv with rfl | rfl | rfl <;> rfl
def Stock.cells (x : Stock) : List Value := [.string x.name, .int .i64 x.len, .int .i64 x.top, .int .i64 x.acc, .int .i64 x.brake]
def tStock : Tell Stock := Tell.flat 5 Stock.cells (fun _ => rfl) (fun _ v hv => by simp [Stock.cells] at hv; rcases hv with rfl | rfl | rfl | rfl | rfl <;> rfl)
theorem next_Stock {G : Gh} {A : Option Addr} {n c : Nat} {xs : List Stock} (h : Sl tStock G A n c xs) {k : Nat} {x : Stock} {rest : List Stock} (hd : xs.drop k = x :: rest) : ∃ b o, A = some ⟨b, o, none⟩ ∧ k < n ∧ xs.drop (k + 1) = rest ∧ G.cell b (o + k * 5) = some (.string x.name) ∧ G.cell b (o + k * 5 + 1) = some (.int .i64 x.len) ∧ G.cell b (o + k * 5 + 2) = some (.int .i64 x.top) ∧ G.cell b (o + k * 5 + 3) = some (.int .i64 x.acc) ∧ G.cell b (o + k * 5 + 4) = some (.int .i64 x.brake) := by
  obtain ⟨b, o, cs, rfl, hk, hrest, _, hc, hr⟩ := h.next hd
  obtain rfl : cs = _ := hr
  exact ⟨b, o, rfl, hk, hrest, hc 0 _ rfl, hc 1 _ rfl, hc 2 _ rfl, hc 3 _ rfl, hc 4 _ rfl⟩
theorem get_Stock {G : Gh} {A : Option Addr} {n c : Nat} {xs : List Stock} (h : Sl tStock G A n c xs) {k : Nat} {x : Stock} (hd : xs[k]? = some x) : ∃ b o, A = some ⟨b, o, none⟩ ∧ k < n ∧ G.cell b (o + k * 5) = some (.string x.name) ∧ G.cell b (o + k * 5 + 1) = some (.int .i64 x.len) ∧ G.cell b (o + k * 5 + 2) = some (.int .i64 x.top) ∧ G.cell b (o + k * 5 + 3) = some (.int .i64 x.acc) ∧ G.cell b (o + k * 5 + 4) = some (.int .i64 x.brake) := by
  obtain ⟨b, o, cs, rfl, hk, _, hc, hr⟩ := h.get hd
  obtain rfl : cs = _ := hr
  exact ⟨b, o, rfl, hk,  hc 0 _ rfl, hc 1 _ rfl, hc 2 _ rfl, hc 3 _ rfl, hc 4 _ rfl⟩
def Train.cells (x : Train) : List Value := [.string x.name, .int .i64 x.stock, .int .i64 x.at_.elem, .int .i64 x.at_.fin, .int .i64 x.left]
def tTrain : Tell Train := Tell.flat 5 Train.cells (fun _ => rfl) (fun _ v hv => by simp [Train.cells] at hv; rcases hv with rfl | rfl | rfl | rfl | rfl <;> rfl)
theorem next_Train {G : Gh} {A : Option Addr} {n c : Nat} {xs : List Train} (h : Sl tTrain G A n c xs) {k : Nat} {x : Train} {rest : List Train} (hd : xs.drop k = x :: rest) : ∃ b o, A = some ⟨b, o, none⟩ ∧ k < n ∧ xs.drop (k + 1) = rest ∧ G.cell b (o + k * 5) = some (.string x.name) ∧ G.cell b (o + k * 5 + 1) = some (.int .i64 x.stock) ∧ G.cell b (o + k * 5 + 2) = some (.int .i64 x.at_.elem) ∧ G.cell b (o + k * 5 + 3) = some (.int .i64 x.at_.fin) ∧ G.cell b (o + k * 5 + 4) = some (.int .i64 x.left) := by
  obtain ⟨b, o, cs, rfl, hk, hrest, _, hc, hr⟩ := h.next hd
  obtain rfl : cs = _ := hr
  exact ⟨b, o, rfl, hk, hrest, hc 0 _ rfl, hc 1 _ rfl, hc 2 _ rfl, hc 3 _ rfl, hc 4 _ rfl⟩
structure Body.At (G : Gh) (A1 : Option Addr) (n1 c1 : Nat) (x : Body) : Prop where
  h1 : Sl tPort G A1 n1 c1 x.trail
theorem Body.At.le {G G' : Gh} {A1 : Option Addr} {n1 c1 : Nat} {x : Body} (h : Body.At G A1 n1 c1 x) (e : G.le G') : Body.At G' A1 n1 c1 x := ⟨h.h1.le e⟩
def tBody : Tell Body where
  sz := 5
  R := fun G cs x => ∃ A1 n1 c1, cs = [.int .i64 x.mode, .slice A1 n1 c1, .int .i64 x.left, .int .i64 x.over, .int .i64 x.v] ∧ Body.At G A1 n1 c1 x
  len := by rintro G cs x ⟨A1, n1, c1, rfl, _⟩; rfl
  le := by rintro G G' cs x e ⟨A1, n1, c1, rfl, h⟩; exact ⟨_, _, _, rfl, h.le e⟩
  one := by rintro G cs x ⟨A1, n1, c1, rfl, _⟩ v hv; simp at hv; rcases hv with rfl | rfl | rfl | rfl | rfl <;> rfl
theorem next_Body {G : Gh} {A : Option Addr} {n c : Nat} {xs : List Body} (h : Sl tBody G A n c xs) {k : Nat} {x : Body} {rest : List Body} (hd : xs.drop k = x :: rest) : ∃ b o A1 n1 c1, A = some ⟨b, o, none⟩ ∧ k < n ∧ xs.drop (k + 1) = rest ∧ G.cell b (o + k * 5) = some (.int .i64 x.mode) ∧ G.cell b (o + k * 5 + 1) = some (.slice A1 n1 c1) ∧ G.cell b (o + k * 5 + 2) = some (.int .i64 x.left) ∧ G.cell b (o + k * 5 + 3) = some (.int .i64 x.over) ∧ G.cell b (o + k * 5 + 4) = some (.int .i64 x.v) ∧ Body.At G A1 n1 c1 x := by
  obtain ⟨b, o, cs, rfl, hk, hrest, _, hc, hr⟩ := h.next hd
  obtain ⟨A1, n1, c1, rfl, hr⟩ := hr
  exact ⟨b, o, A1, n1, c1, rfl, hk, hrest, hc 0 _ rfl, hc 1 _ rfl, hc 2 _ rfl, hc 3 _ rfl, hc 4 _ rfl, hr⟩
theorem get_Body {G : Gh} {A : Option Addr} {n c : Nat} {xs : List Body} (h : Sl tBody G A n c xs) {k : Nat} {x : Body} (hd : xs[k]? = some x) : ∃ b o A1 n1 c1, A = some ⟨b, o, none⟩ ∧ k < n ∧ G.cell b (o + k * 5) = some (.int .i64 x.mode) ∧ G.cell b (o + k * 5 + 1) = some (.slice A1 n1 c1) ∧ G.cell b (o + k * 5 + 2) = some (.int .i64 x.left) ∧ G.cell b (o + k * 5 + 3) = some (.int .i64 x.over) ∧ G.cell b (o + k * 5 + 4) = some (.int .i64 x.v) ∧ Body.At G A1 n1 c1 x := by
  obtain ⟨b, o, cs, rfl, hk, _, hc, hr⟩ := h.get hd
  obtain ⟨A1, n1, c1, rfl, hr⟩ := hr
  exact ⟨b, o, A1, n1, c1, rfl, hk,  hc 0 _ rfl, hc 1 _ rfl, hc 2 _ rfl, hc 3 _ rfl, hc 4 _ rfl, hr⟩
def Act.cells (x : Act) : List Value := [.int .i64 x.want, .bool x.turn]
def tAct : Tell Act := Tell.flat 2 Act.cells (fun _ => rfl) (fun _ v hv => by simp [Act.cells] at hv; rcases hv with rfl | rfl <;> rfl)
def Fail.cells (x : Fail) : List Value := [.int .i64 x.kind, .int .i64 x.which, .bool x.on]
def tFail : Tell Fail := Tell.flat 3 Fail.cells (fun _ => rfl) (fun _ v hv => by simp [Fail.cells] at hv; rcases hv with rfl | rfl | rfl <;> rfl)
structure Note.At (G : Gh) (A1 : Option Addr) (n1 c1 : Nat) (A2 : Option Addr) (n2 c2 : Nat) (A3 : Option Addr) (n3 c3 : Nat) (x : Note) : Prop where
  h1 : Sl tInt G A1 n1 c1 x.pos
  h2 : Sl tInt G A2 n2 c2 x.lamps
  h3 : Sl tBody G A3 n3 c3 x.bodies
theorem Note.At.le {G G' : Gh} {A1 : Option Addr} {n1 c1 : Nat} {A2 : Option Addr} {n2 c2 : Nat} {A3 : Option Addr} {n3 c3 : Nat} {x : Note} (h : Note.At G A1 n1 c1 A2 n2 c2 A3 n3 c3 x) (e : G.le G') : Note.At G' A1 n1 c1 A2 n2 c2 A3 n3 c3 x := ⟨h.h1.le e, h.h2.le e, h.h3.le e⟩
def tNote : Tell Note where
  sz := 3
  R := fun G cs x => ∃ A1 n1 c1 A2 n2 c2 A3 n3 c3, cs = [.slice A1 n1 c1, .slice A2 n2 c2, .slice A3 n3 c3] ∧ Note.At G A1 n1 c1 A2 n2 c2 A3 n3 c3 x
  len := by rintro G cs x ⟨A1, n1, c1, A2, n2, c2, A3, n3, c3, rfl, _⟩; rfl
  le := by rintro G G' cs x e ⟨A1, n1, c1, A2, n2, c2, A3, n3, c3, rfl, h⟩; exact ⟨_, _, _, _, _, _, _, _, _, rfl, h.le e⟩
  one := by rintro G cs x ⟨A1, n1, c1, A2, n2, c2, A3, n3, c3, rfl, _⟩ v hv; simp at hv; rcases hv with rfl | rfl | rfl <;> rfl
theorem next_Note {G : Gh} {A : Option Addr} {n c : Nat} {xs : List Note} (h : Sl tNote G A n c xs) {k : Nat} {x : Note} {rest : List Note} (hd : xs.drop k = x :: rest) : ∃ b o A1 n1 c1 A2 n2 c2 A3 n3 c3, A = some ⟨b, o, none⟩ ∧ k < n ∧ xs.drop (k + 1) = rest ∧ G.cell b (o + k * 3) = some (.slice A1 n1 c1) ∧ G.cell b (o + k * 3 + 1) = some (.slice A2 n2 c2) ∧ G.cell b (o + k * 3 + 2) = some (.slice A3 n3 c3) ∧ Note.At G A1 n1 c1 A2 n2 c2 A3 n3 c3 x := by
  obtain ⟨b, o, cs, rfl, hk, hrest, _, hc, hr⟩ := h.next hd
  obtain ⟨A1, n1, c1, A2, n2, c2, A3, n3, c3, rfl, hr⟩ := hr
  exact ⟨b, o, A1, n1, c1, A2, n2, c2, A3, n3, c3, rfl, hk, hrest, hc 0 _ rfl, hc 1 _ rfl, hc 2 _ rfl, hr⟩
theorem get_Note {G : Gh} {A : Option Addr} {n c : Nat} {xs : List Note} (h : Sl tNote G A n c xs) {k : Nat} {x : Note} (hd : xs[k]? = some x) : ∃ b o A1 n1 c1 A2 n2 c2 A3 n3 c3, A = some ⟨b, o, none⟩ ∧ k < n ∧ G.cell b (o + k * 3) = some (.slice A1 n1 c1) ∧ G.cell b (o + k * 3 + 1) = some (.slice A2 n2 c2) ∧ G.cell b (o + k * 3 + 2) = some (.slice A3 n3 c3) ∧ Note.At G A1 n1 c1 A2 n2 c2 A3 n3 c3 x := by
  obtain ⟨b, o, cs, rfl, hk, _, hc, hr⟩ := h.get hd
  obtain ⟨A1, n1, c1, A2, n2, c2, A3, n3, c3, rfl, hr⟩ := hr
  exact ⟨b, o, A1, n1, c1, A2, n2, c2, A3, n3, c3, rfl, hk,  hc 0 _ rfl, hc 1 _ rfl, hc 2 _ rfl, hr⟩
structure Move.At (G : Gh) (A1 : Option Addr) (n1 c1 : Nat) (A2 : Option Addr) (n2 c2 : Nat) (A3 : Option Addr) (n3 c3 : Nat) (A4 : Option Addr) (n4 c4 : Nat) (x : Move) : Prop where
  h1 : Sl tInt G A1 n1 c1 x.calls
  h2 : Sl tInt G A2 n2 c2 x.cancels
  h3 : Sl tFail G A3 n3 c3 x.fails
  h4 : Sl tAct G A4 n4 c4 x.acts
theorem Move.At.le {G G' : Gh} {A1 : Option Addr} {n1 c1 : Nat} {A2 : Option Addr} {n2 c2 : Nat} {A3 : Option Addr} {n3 c3 : Nat} {A4 : Option Addr} {n4 c4 : Nat} {x : Move} (h : Move.At G A1 n1 c1 A2 n2 c2 A3 n3 c3 A4 n4 c4 x) (e : G.le G') : Move.At G' A1 n1 c1 A2 n2 c2 A3 n3 c3 A4 n4 c4 x := ⟨h.h1.le e, h.h2.le e, h.h3.le e, h.h4.le e⟩
def tMove : Tell Move where
  sz := 4
  R := fun G cs x => ∃ A1 n1 c1 A2 n2 c2 A3 n3 c3 A4 n4 c4, cs = [.slice A1 n1 c1, .slice A2 n2 c2, .slice A3 n3 c3, .slice A4 n4 c4] ∧ Move.At G A1 n1 c1 A2 n2 c2 A3 n3 c3 A4 n4 c4 x
  len := by rintro G cs x ⟨A1, n1, c1, A2, n2, c2, A3, n3, c3, A4, n4, c4, rfl, _⟩; rfl
  le := by rintro G G' cs x e ⟨A1, n1, c1, A2, n2, c2, A3, n3, c3, A4, n4, c4, rfl, h⟩; exact ⟨_, _, _, _, _, _, _, _, _, _, _, _, rfl, h.le e⟩
  one := by rintro G cs x ⟨A1, n1, c1, A2, n2, c2, A3, n3, c3, A4, n4, c4, rfl, _⟩ v hv; simp at hv; rcases hv with rfl | rfl | rfl | rfl <;> rfl
def Turn.cells (x : Turn) : List Value := [.int .i64 x.line, .int .i64 x.lead]
def tTurn : Tell Turn := Tell.flat 2 Turn.cells (fun _ => rfl) (fun _ v hv => by simp [Turn.cells] at hv; rcases hv with rfl | rfl <;> rfl)
theorem next_Int {G : Gh} {A : Option Addr} {n c : Nat} {xs : List Int} (h : Sl tInt G A n c xs) {k : Nat} {x : Int} {rest : List Int} (hd : xs.drop k = x :: rest) : ∃ b o, A = some ⟨b, o, none⟩ ∧ k < n ∧ xs.drop (k + 1) = rest ∧ G.cell b (o + k * 1) = some (.int .i64 x) := by
  obtain ⟨b, o, cs, rfl, hk, hrest, _, hc, hr⟩ := h.next hd
  obtain rfl : cs = _ := hr
  have h0 := hc 0 _ rfl
  simp only [tInt, Tell.flat, Nat.add_zero] at h0
  exact ⟨b, o, rfl, hk, hrest, h0⟩
theorem get_Int {G : Gh} {A : Option Addr} {n c : Nat} {xs : List Int} (h : Sl tInt G A n c xs) {k : Nat} {x : Int} (hd : xs[k]? = some x) : ∃ b o, A = some ⟨b, o, none⟩ ∧ k < n ∧ G.cell b (o + k * 1) = some (.int .i64 x) := by
  obtain ⟨b, o, cs, rfl, hk, _, hc, hr⟩ := h.get hd
  obtain rfl : cs = _ := hr
  have h0 := hc 0 _ rfl
  simp only [tInt, Tell.flat, Nat.add_zero] at h0
  exact ⟨b, o, rfl, hk, h0⟩
theorem get_Bool {G : Gh} {A : Option Addr} {n c : Nat} {xs : List Bool} (h : Sl tBool G A n c xs) {k : Nat} {x : Bool} (hd : xs[k]? = some x) : ∃ b o, A = some ⟨b, o, none⟩ ∧ k < n ∧ G.cell b (o + k * 1) = some (.bool x) := by
  obtain ⟨b, o, cs, rfl, hk, _, hc, hr⟩ := h.get hd
  obtain rfl : cs = _ := hr
  have h0 := hc 0 _ rfl
  simp only [tBool, Tell.flat, Nat.add_zero] at h0
  exact ⟨b, o, rfl, hk, h0⟩
theorem next_Str {G : Gh} {A : Option Addr} {n c : Nat} {xs : List ByteArray} (h : Sl tStr G A n c xs) {k : Nat} {x : ByteArray} {rest : List ByteArray} (hd : xs.drop k = x :: rest) : ∃ b o, A = some ⟨b, o, none⟩ ∧ k < n ∧ xs.drop (k + 1) = rest ∧ G.cell b (o + k * 1) = some (.string x) := by
  obtain ⟨b, o, cs, rfl, hk, hrest, _, hc, hr⟩ := h.next hd
  obtain rfl : cs = _ := hr
  have h0 := hc 0 _ rfl
  simp only [tStr, Tell.flat, Nat.add_zero] at h0
  exact ⟨b, o, rfl, hk, hrest, h0⟩
theorem get_Str {G : Gh} {A : Option Addr} {n c : Nat} {xs : List ByteArray} (h : Sl tStr G A n c xs) {k : Nat} {x : ByteArray} (hd : xs[k]? = some x) : ∃ b o, A = some ⟨b, o, none⟩ ∧ k < n ∧ G.cell b (o + k * 1) = some (.string x) := by
  obtain ⟨b, o, cs, rfl, hk, _, hc, hr⟩ := h.get hd
  obtain rfl : cs = _ := hr
  have h0 := hc 0 _ rfl
  simp only [tStr, Tell.flat, Nat.add_zero] at h0
  exact ⟨b, o, rfl, hk, h0⟩
end Go.Proofs.YtjckojnlapchoaaGreat
open Go Go.RowKit
namespace Go.Proofs.YtjckojnlapchoaaGreat
theorem rows_Elem {G : Gh} (l : List Elem) : Rows tElem G (l.flatMap Elem.cells) l := Rows.flat l
theorem rows_Port {G : Gh} (l : List Port) : Rows tPort G (l.flatMap Port.cells) l := Rows.flat l
theorem rows_Join {G : Gh} (l : List Join) : Rows tJoin G (l.flatMap Join.cells) l := Rows.flat l
theorem rows_Signal {G : Gh} (l : List Signal) : Rows tSignal G (l.flatMap Signal.cells) l := Rows.flat l
theorem rows_Way {G : Gh} (l : List Way) : Rows tWay G (l.flatMap Way.cells) l := Rows.flat l
theorem rows_Step {G : Gh} (l : List Step) : Rows tStep G (l.flatMap Step.cells) l := Rows.flat l
theorem rows_Need {G : Gh} (l : List Need) : Rows tNeed G (l.flatMap Need.cells) l := Rows.flat l
theorem rows_Stock {G : Gh} (l : List Stock) : Rows tStock G (l.flatMap Stock.cells) l := Rows.flat l
theorem rows_Train {G : Gh} (l : List Train) : Rows tTrain G (l.flatMap Train.cells) l := Rows.flat l
theorem rows_Int {G : Gh} (l : List Int) : Rows tInt G (l.flatMap fun x => [.int .i64 x]) l := Rows.flat l
theorem rows_Bool {G : Gh} (l : List Bool) : Rows tBool G (l.flatMap fun x => [.bool x]) l := Rows.flat l
theorem rows_Str {G : Gh} (l : List ByteArray) : Rows tStr G (l.flatMap fun x => [.string x]) l := Rows.flat l
end Go.Proofs.YtjckojnlapchoaaGreat
open Go Go.RowKit
namespace Go.Proofs.YtjckojnlapchoaaGreat
open Go.Proofs
instance : OneT Tryz.prog 2 := ⟨Tryz.isAgg2, Tryz.sizeOf2⟩
instance : VarT Tryz.prog 2 [.int .i64 0] := ⟨fun W => ⟨_, Tryz.zeroValue2 W, rfl⟩, Tryz.sizeOf2⟩
instance : IntT Tryz.prog 2 .i64 := ⟨Tryz.underlying2⟩
instance : OneT Tryz.prog 3 := ⟨Tryz.isAgg3, Tryz.sizeOf3⟩
instance : VarT Tryz.prog 3 [.int .i64 0] := ⟨fun W => ⟨_, Tryz.zeroValue3 W, rfl⟩, Tryz.sizeOf3⟩
instance : IntT Tryz.prog 3 .i64 := ⟨Tryz.underlying3⟩
instance : OneT Tryz.prog 4 := ⟨Tryz.isAgg4, Tryz.sizeOf4⟩
instance : VarT Tryz.prog 4 [.bool false] := ⟨fun W => ⟨_, Tryz.zeroValue4 W, rfl⟩, Tryz.sizeOf4⟩
instance : BoolT Tryz.prog 4 := ⟨Tryz.underlying4⟩
instance : OneT Tryz.prog 5 := ⟨Tryz.isAgg5, Tryz.sizeOf5⟩
instance : VarT Tryz.prog 5 [.int .u8 0] := ⟨fun W => ⟨_, Tryz.zeroValue5 W, rfl⟩, Tryz.sizeOf5⟩
instance : IntT Tryz.prog 5 .u8 := ⟨Tryz.underlying5⟩
instance : OneT Tryz.prog 6 := ⟨Tryz.isAgg6, Tryz.sizeOf6⟩
instance : VarT Tryz.prog 6 [.int .u8 0] := ⟨fun W => ⟨_, Tryz.zeroValue6 W, rfl⟩, Tryz.sizeOf6⟩
instance : IntT Tryz.prog 6 .u8 := ⟨Tryz.underlying6⟩
instance : AggT Tryz.prog 7 4 := ⟨Tryz.isAgg7, Tryz.sizeOf7⟩
instance : VarT Tryz.prog 7 [.int .i64 0, .int .i64 0, .bool false, .int .u8 0] := ⟨fun W => ⟨_, Tryz.zeroValue7 W, rfl⟩, Tryz.sizeOf7⟩
instance : FldA Tryz.prog 7 0 0 := ⟨fun b o W => by simp [Instr.fieldAt, Instr.sureAddr, fieldPlace, go_sem, add_plain]⟩
instance : FldA Tryz.prog 7 1 1 := ⟨fun b o W => by simp [Instr.fieldAt, Instr.sureAddr, fieldPlace, go_sem, add_plain]⟩
instance : FldA Tryz.prog 7 2 2 := ⟨fun b o W => by simp [Instr.fieldAt, Instr.sureAddr, fieldPlace, go_sem, add_plain]⟩
instance : FldA Tryz.prog 7 3 3 := ⟨fun b o W => by simp [Instr.fieldAt, Instr.sureAddr, fieldPlace, go_sem, add_plain]⟩
instance : AggT Tryz.prog 8 4 := ⟨Tryz.isAgg8, Tryz.sizeOf8⟩
instance : VarT Tryz.prog 8 [.int .i64 0, .int .i64 0, .bool false, .int .u8 0] := ⟨fun W => ⟨_, Tryz.zeroValue8 W, rfl⟩, Tryz.sizeOf8⟩
instance : FldA Tryz.prog 8 0 0 := ⟨fun b o W => by simp [Instr.fieldAt, Instr.sureAddr, fieldPlace, go_sem, add_plain]⟩
instance : FldA Tryz.prog 8 1 1 := ⟨fun b o W => by simp [Instr.fieldAt, Instr.sureAddr, fieldPlace, go_sem, add_plain]⟩
instance : FldA Tryz.prog 8 2 2 := ⟨fun b o W => by simp [Instr.fieldAt, Instr.sureAddr, fieldPlace, go_sem, add_plain]⟩
instance : FldA Tryz.prog 8 3 3 := ⟨fun b o W => by simp [Instr.fieldAt, Instr.sureAddr, fieldPlace, go_sem, add_plain]⟩
instance : OneT Tryz.prog 9 := ⟨Tryz.isAgg9, Tryz.sizeOf9⟩
instance : VarT Tryz.prog 9 [.string ⟨#[]⟩] := ⟨fun W => ⟨_, Tryz.zeroValue9 W, rfl⟩, Tryz.sizeOf9⟩
instance : StrT Tryz.prog 9 := ⟨Tryz.underlying9⟩
instance : OneT Tryz.prog 10 := ⟨Tryz.isAgg10, Tryz.sizeOf10⟩
instance : VarT Tryz.prog 10 [.string ⟨#[]⟩] := ⟨fun W => ⟨_, Tryz.zeroValue10 W, rfl⟩, Tryz.sizeOf10⟩
instance : StrT Tryz.prog 10 := ⟨Tryz.underlying10⟩
instance : OneT Tryz.prog 11 := ⟨Tryz.isAgg11, Tryz.sizeOf11⟩
instance : VarT Tryz.prog 11 [.string ⟨#[]⟩] := ⟨fun W => ⟨_, Tryz.zeroValue11 W, rfl⟩, Tryz.sizeOf11⟩
instance : StrT Tryz.prog 11 := ⟨Tryz.underlying11⟩
instance : OneT Tryz.prog 12 := ⟨Tryz.isAgg12, Tryz.sizeOf12⟩
instance : VarT Tryz.prog 12 [.int .u64 0] := ⟨fun W => ⟨_, Tryz.zeroValue12 W, rfl⟩, Tryz.sizeOf12⟩
instance : IntT Tryz.prog 12 .u64 := ⟨Tryz.underlying12⟩
instance : AggT Tryz.prog 13 2 := ⟨Tryz.isAgg13, Tryz.sizeOf13⟩
instance : VarT Tryz.prog 13 [.string ⟨#[]⟩, .int .u64 0] := ⟨fun W => ⟨_, Tryz.zeroValue13 W, rfl⟩, Tryz.sizeOf13⟩
instance : FldA Tryz.prog 13 0 0 := ⟨fun b o W => by simp [Instr.fieldAt, Instr.sureAddr, fieldPlace, go_sem, add_plain]⟩
instance : FldA Tryz.prog 13 1 1 := ⟨fun b o W => by simp [Instr.fieldAt, Instr.sureAddr, fieldPlace, go_sem, add_plain]⟩
instance : AggT Tryz.prog 14 2 := ⟨Tryz.isAgg14, Tryz.sizeOf14⟩
instance : VarT Tryz.prog 14 [.string ⟨#[]⟩, .int .u64 0] := ⟨fun W => ⟨_, Tryz.zeroValue14 W, rfl⟩, Tryz.sizeOf14⟩
instance : FldA Tryz.prog 14 0 0 := ⟨fun b o W => by simp [Instr.fieldAt, Instr.sureAddr, fieldPlace, go_sem, add_plain]⟩
instance : FldA Tryz.prog 14 1 1 := ⟨fun b o W => by simp [Instr.fieldAt, Instr.sureAddr, fieldPlace, go_sem, add_plain]⟩
instance : OneT Tryz.prog 15 := ⟨Tryz.isAgg15, Tryz.sizeOf15⟩
instance : VarT Tryz.prog 15 [.pointer none] := ⟨fun W => ⟨_, Tryz.zeroValue15 W, rfl⟩, Tryz.sizeOf15⟩
instance : OneT Tryz.prog 16 := ⟨Tryz.isAgg16, Tryz.sizeOf16⟩
instance : VarT Tryz.prog 16 [.pointer none] := ⟨fun W => ⟨_, Tryz.zeroValue16 W, rfl⟩, Tryz.sizeOf16⟩
instance : OneT Tryz.prog 17 := ⟨Tryz.isAgg17, Tryz.sizeOf17⟩
instance : VarT Tryz.prog 17 [.pointer none] := ⟨fun W => ⟨_, Tryz.zeroValue17 W, rfl⟩, Tryz.sizeOf17⟩
instance : AggT Tryz.prog 18 1 := ⟨Tryz.isAgg18, Tryz.sizeOf18⟩
instance : VarT Tryz.prog 18 [.pointer none] := ⟨fun W => ⟨_, Tryz.zeroValue18 W, rfl⟩, Tryz.sizeOf18⟩
instance : FldA Tryz.prog 18 0 0 := ⟨fun b o W => by simp [Instr.fieldAt, Instr.sureAddr, fieldPlace, go_sem, add_plain]⟩
instance : AggT Tryz.prog 19 1 := ⟨Tryz.isAgg19, Tryz.sizeOf19⟩
instance : VarT Tryz.prog 19 [.pointer none] := ⟨fun W => ⟨_, Tryz.zeroValue19 W, rfl⟩, Tryz.sizeOf19⟩
instance : FldA Tryz.prog 19 0 0 := ⟨fun b o W => by simp [Instr.fieldAt, Instr.sureAddr, fieldPlace, go_sem, add_plain]⟩
instance : OneT Tryz.prog 21 := ⟨Tryz.isAgg21, Tryz.sizeOf21⟩
instance : VarT Tryz.prog 21 [.int .i32 0] := ⟨fun W => ⟨_, Tryz.zeroValue21 W, rfl⟩, Tryz.sizeOf21⟩
instance : IntT Tryz.prog 21 .i32 := ⟨Tryz.underlying21⟩
instance : OneT Tryz.prog 22 := ⟨Tryz.isAgg22, Tryz.sizeOf22⟩
instance : VarT Tryz.prog 22 [.slice none 0 0] := ⟨fun W => ⟨_, Tryz.zeroValue22 W, rfl⟩, Tryz.sizeOf22⟩
instance : SliceT Tryz.prog 22 130 3 32 (.agg #[.string ⟨#[]⟩, .int .i64 0, .int .i64 0]) := ⟨Tryz.underlying22, ⟨Tryz.t130, by kernel_rfl, rfl, rfl, rfl, rfl⟩, by decide⟩
instance : OneT Tryz.prog 23 := ⟨Tryz.isAgg23, Tryz.sizeOf23⟩
instance : VarT Tryz.prog 23 [.slice none 0 0] := ⟨fun W => ⟨_, Tryz.zeroValue23 W, rfl⟩, Tryz.sizeOf23⟩
instance : SliceT Tryz.prog 23 132 4 32 (.agg #[.int .i64 0, .int .i64 0, .int .i64 0, .int .i64 0]) := ⟨Tryz.underlying23, ⟨Tryz.t132, by kernel_rfl, rfl, rfl, rfl, rfl⟩, by decide⟩
instance : OneT Tryz.prog 24 := ⟨Tryz.isAgg24, Tryz.sizeOf24⟩
instance : VarT Tryz.prog 24 [.slice none 0 0] := ⟨fun W => ⟨_, Tryz.zeroValue24 W, rfl⟩, Tryz.sizeOf24⟩
instance : SliceT Tryz.prog 24 135 4 40 (.agg #[.string ⟨#[]⟩, .int .i64 0, .int .i64 0, .bool false]) := ⟨Tryz.underlying24, ⟨Tryz.t135, by kernel_rfl, rfl, rfl, rfl, rfl⟩, by decide⟩
instance : OneT Tryz.prog 25 := ⟨Tryz.isAgg25, Tryz.sizeOf25⟩
instance : VarT Tryz.prog 25 [.slice none 0 0] := ⟨fun W => ⟨_, Tryz.zeroValue25 W, rfl⟩, Tryz.sizeOf25⟩
instance : SliceT Tryz.prog 25 137 2 40 (.agg #[.string ⟨#[]⟩, .slice none 0 0]) := ⟨Tryz.underlying25, ⟨Tryz.t137, by kernel_rfl, rfl, rfl, rfl, rfl⟩, by decide⟩
instance : AggT Tryz.prog 26 9 := ⟨Tryz.isAgg26, Tryz.sizeOf26⟩
instance : VarT Tryz.prog 26 [.slice none 0 0, .slice none 0 0, .slice none 0 0, .slice none 0 0, .int .i64 0, .int .i64 0, .int .i64 0, .int .i64 0, .bool false] := ⟨fun W => ⟨_, Tryz.zeroValue26 W, rfl⟩, Tryz.sizeOf26⟩
instance : FldA Tryz.prog 26 0 0 := ⟨fun b o W => by simp [Instr.fieldAt, Instr.sureAddr, fieldPlace, go_sem, add_plain]⟩
instance : FldA Tryz.prog 26 1 1 := ⟨fun b o W => by simp [Instr.fieldAt, Instr.sureAddr, fieldPlace, go_sem, add_plain]⟩
instance : FldA Tryz.prog 26 2 2 := ⟨fun b o W => by simp [Instr.fieldAt, Instr.sureAddr, fieldPlace, go_sem, add_plain]⟩
instance : FldA Tryz.prog 26 3 3 := ⟨fun b o W => by simp [Instr.fieldAt, Instr.sureAddr, fieldPlace, go_sem, add_plain]⟩
instance : FldA Tryz.prog 26 4 4 := ⟨fun b o W => by simp [Instr.fieldAt, Instr.sureAddr, fieldPlace, go_sem, add_plain]⟩
instance : FldA Tryz.prog 26 5 5 := ⟨fun b o W => by simp [Instr.fieldAt, Instr.sureAddr, fieldPlace, go_sem, add_plain]⟩
instance : FldA Tryz.prog 26 6 6 := ⟨fun b o W => by simp [Instr.fieldAt, Instr.sureAddr, fieldPlace, go_sem, add_plain]⟩
instance : FldA Tryz.prog 26 7 7 := ⟨fun b o W => by simp [Instr.fieldAt, Instr.sureAddr, fieldPlace, go_sem, add_plain]⟩
instance : FldA Tryz.prog 26 8 8 := ⟨fun b o W => by simp [Instr.fieldAt, Instr.sureAddr, fieldPlace, go_sem, add_plain]⟩
instance : AggT Tryz.prog 27 9 := ⟨Tryz.isAgg27, Tryz.sizeOf27⟩
instance : VarT Tryz.prog 27 [.slice none 0 0, .slice none 0 0, .slice none 0 0, .slice none 0 0, .int .i64 0, .int .i64 0, .int .i64 0, .int .i64 0, .bool false] := ⟨fun W => ⟨_, Tryz.zeroValue27 W, rfl⟩, Tryz.sizeOf27⟩
instance : FldA Tryz.prog 27 0 0 := ⟨fun b o W => by simp [Instr.fieldAt, Instr.sureAddr, fieldPlace, go_sem, add_plain]⟩
instance : FldA Tryz.prog 27 1 1 := ⟨fun b o W => by simp [Instr.fieldAt, Instr.sureAddr, fieldPlace, go_sem, add_plain]⟩
instance : FldA Tryz.prog 27 2 2 := ⟨fun b o W => by simp [Instr.fieldAt, Instr.sureAddr, fieldPlace, go_sem, add_plain]⟩
instance : FldA Tryz.prog 27 3 3 := ⟨fun b o W => by simp [Instr.fieldAt, Instr.sureAddr, fieldPlace, go_sem, add_plain]⟩
instance : FldA Tryz.prog 27 4 4 := ⟨fun b o W => by simp [Instr.fieldAt, Instr.sureAddr, fieldPlace, go_sem, add_plain]⟩
instance : FldA Tryz.prog 27 5 5 := ⟨fun b o W => by simp [Instr.fieldAt, Instr.sureAddr, fieldPlace, go_sem, add_plain]⟩
instance : FldA Tryz.prog 27 6 6 := ⟨fun b o W => by simp [Instr.fieldAt, Instr.sureAddr, fieldPlace, go_sem, add_plain]⟩
instance : FldA Tryz.prog 27 7 7 := ⟨fun b o W => by simp [Instr.fieldAt, Instr.sureAddr, fieldPlace, go_sem, add_plain]⟩
instance : FldA Tryz.prog 27 8 8 := ⟨fun b o W => by simp [Instr.fieldAt, Instr.sureAddr, fieldPlace, go_sem, add_plain]⟩
instance : OneT Tryz.prog 28 := ⟨Tryz.isAgg28, Tryz.sizeOf28⟩
instance : VarT Tryz.prog 28 [.slice none 0 0] := ⟨fun W => ⟨_, Tryz.zeroValue28 W, rfl⟩, Tryz.sizeOf28⟩
instance : SliceT Tryz.prog 28 3 1 8 (.int .i64 0) := ⟨Tryz.underlying28, ⟨Tryz.t3, by kernel_rfl, rfl, rfl, rfl, rfl⟩, by decide⟩
instance : AggT Tryz.prog 29 5 := ⟨Tryz.isAgg29, Tryz.sizeOf29⟩
instance : VarT Tryz.prog 29 [.string ⟨#[]⟩, .int .i64 0, .int .i64 0, .int .i64 0, .int .i64 0] := ⟨fun W => ⟨_, Tryz.zeroValue29 W, rfl⟩, Tryz.sizeOf29⟩
instance : FldA Tryz.prog 29 0 0 := ⟨fun b o W => by simp [Instr.fieldAt, Instr.sureAddr, fieldPlace, go_sem, add_plain]⟩
instance : FldA Tryz.prog 29 1 1 := ⟨fun b o W => by simp [Instr.fieldAt, Instr.sureAddr, fieldPlace, go_sem, add_plain]⟩
instance : FldA Tryz.prog 29 2 2 := ⟨fun b o W => by simp [Instr.fieldAt, Instr.sureAddr, fieldPlace, go_sem, add_plain]⟩
instance : FldA Tryz.prog 29 3 3 := ⟨fun b o W => by simp [Instr.fieldAt, Instr.sureAddr, fieldPlace, go_sem, add_plain]⟩
instance : FldA Tryz.prog 29 4 4 := ⟨fun b o W => by simp [Instr.fieldAt, Instr.sureAddr, fieldPlace, go_sem, add_plain]⟩
instance : AggT Tryz.prog 30 5 := ⟨Tryz.isAgg30, Tryz.sizeOf30⟩
instance : VarT Tryz.prog 30 [.string ⟨#[]⟩, .int .i64 0, .int .i64 0, .int .i64 0, .int .i64 0] := ⟨fun W => ⟨_, Tryz.zeroValue30 W, rfl⟩, Tryz.sizeOf30⟩
instance : FldA Tryz.prog 30 0 0 := ⟨fun b o W => by simp [Instr.fieldAt, Instr.sureAddr, fieldPlace, go_sem, add_plain]⟩
instance : FldA Tryz.prog 30 1 1 := ⟨fun b o W => by simp [Instr.fieldAt, Instr.sureAddr, fieldPlace, go_sem, add_plain]⟩
instance : FldA Tryz.prog 30 2 2 := ⟨fun b o W => by simp [Instr.fieldAt, Instr.sureAddr, fieldPlace, go_sem, add_plain]⟩
instance : FldA Tryz.prog 30 3 3 := ⟨fun b o W => by simp [Instr.fieldAt, Instr.sureAddr, fieldPlace, go_sem, add_plain]⟩
instance : FldA Tryz.prog 30 4 4 := ⟨fun b o W => by simp [Instr.fieldAt, Instr.sureAddr, fieldPlace, go_sem, add_plain]⟩
instance : OneT Tryz.prog 31 := ⟨Tryz.isAgg31, Tryz.sizeOf31⟩
instance : VarT Tryz.prog 31 [.slice none 0 0] := ⟨fun W => ⟨_, Tryz.zeroValue31 W, rfl⟩, Tryz.sizeOf31⟩
instance : SliceT Tryz.prog 31 71 2 16 (.agg #[.int .i64 0, .int .i64 0]) := ⟨Tryz.underlying31, ⟨Tryz.t71, by kernel_rfl, rfl, rfl, rfl, rfl⟩, by decide⟩
instance : AggT Tryz.prog 32 5 := ⟨Tryz.isAgg32, Tryz.sizeOf32⟩
instance : VarT Tryz.prog 32 [.int .i64 0, .slice none 0 0, .int .i64 0, .int .i64 0, .int .i64 0] := ⟨fun W => ⟨_, Tryz.zeroValue32 W, rfl⟩, Tryz.sizeOf32⟩
instance : FldA Tryz.prog 32 0 0 := ⟨fun b o W => by simp [Instr.fieldAt, Instr.sureAddr, fieldPlace, go_sem, add_plain]⟩
instance : FldA Tryz.prog 32 1 1 := ⟨fun b o W => by simp [Instr.fieldAt, Instr.sureAddr, fieldPlace, go_sem, add_plain]⟩
instance : FldA Tryz.prog 32 2 2 := ⟨fun b o W => by simp [Instr.fieldAt, Instr.sureAddr, fieldPlace, go_sem, add_plain]⟩
instance : FldA Tryz.prog 32 3 3 := ⟨fun b o W => by simp [Instr.fieldAt, Instr.sureAddr, fieldPlace, go_sem, add_plain]⟩
instance : FldA Tryz.prog 32 4 4 := ⟨fun b o W => by simp [Instr.fieldAt, Instr.sureAddr, fieldPlace, go_sem, add_plain]⟩
instance : AggT Tryz.prog 33 5 := ⟨Tryz.isAgg33, Tryz.sizeOf33⟩
instance : VarT Tryz.prog 33 [.int .i64 0, .slice none 0 0, .int .i64 0, .int .i64 0, .int .i64 0] := ⟨fun W => ⟨_, Tryz.zeroValue33 W, rfl⟩, Tryz.sizeOf33⟩
instance : FldA Tryz.prog 33 0 0 := ⟨fun b o W => by simp [Instr.fieldAt, Instr.sureAddr, fieldPlace, go_sem, add_plain]⟩
instance : FldA Tryz.prog 33 1 1 := ⟨fun b o W => by simp [Instr.fieldAt, Instr.sureAddr, fieldPlace, go_sem, add_plain]⟩
instance : FldA Tryz.prog 33 2 2 := ⟨fun b o W => by simp [Instr.fieldAt, Instr.sureAddr, fieldPlace, go_sem, add_plain]⟩
instance : FldA Tryz.prog 33 3 3 := ⟨fun b o W => by simp [Instr.fieldAt, Instr.sureAddr, fieldPlace, go_sem, add_plain]⟩
instance : FldA Tryz.prog 33 4 4 := ⟨fun b o W => by simp [Instr.fieldAt, Instr.sureAddr, fieldPlace, go_sem, add_plain]⟩
instance : OneT Tryz.prog 38 := ⟨Tryz.isAgg38, Tryz.sizeOf38⟩
instance : VarT Tryz.prog 38 [.pointer none] := ⟨fun W => ⟨_, Tryz.zeroValue38 W, rfl⟩, Tryz.sizeOf38⟩
instance : OneT Tryz.prog 46 := ⟨Tryz.isAgg46, Tryz.sizeOf46⟩
instance : VarT Tryz.prog 46 [.slice none 0 0] := ⟨fun W => ⟨_, Tryz.zeroValue46 W, rfl⟩, Tryz.sizeOf46⟩
instance : SliceT Tryz.prog 46 30 5 48 (.agg #[.string ⟨#[]⟩, .int .i64 0, .int .i64 0, .int .i64 0, .int .i64 0]) := ⟨Tryz.underlying46, ⟨Tryz.t30, by kernel_rfl, rfl, rfl, rfl, rfl⟩, by decide⟩
instance : OneT Tryz.prog 47 := ⟨Tryz.isAgg47, Tryz.sizeOf47⟩
instance : VarT Tryz.prog 47 [.slice none 0 0] := ⟨fun W => ⟨_, Tryz.zeroValue47 W, rfl⟩, Tryz.sizeOf47⟩
instance : SliceT Tryz.prog 47 73 5 48 (.agg #[.string ⟨#[]⟩, .int .i64 0, .int .i64 0, .int .i64 0, .int .i64 0]) := ⟨Tryz.underlying47, ⟨Tryz.t73, by kernel_rfl, rfl, rfl, rfl, rfl⟩, by decide⟩
instance : OneT Tryz.prog 48 := ⟨Tryz.isAgg48, Tryz.sizeOf48⟩
instance : VarT Tryz.prog 48 [.slice none 0 0] := ⟨fun W => ⟨_, Tryz.zeroValue48 W, rfl⟩, Tryz.sizeOf48⟩
instance : SliceT Tryz.prog 48 76 3 72 (.agg #[.slice none 0 0, .slice none 0 0, .slice none 0 0]) := ⟨Tryz.underlying48, ⟨Tryz.t76, by kernel_rfl, rfl, rfl, rfl, rfl⟩, by decide⟩
instance : OneT Tryz.prog 51 := ⟨Tryz.isAgg51, Tryz.sizeOf51⟩
instance : VarT Tryz.prog 51 [.slice none 0 0] := ⟨fun W => ⟨_, Tryz.zeroValue51 W, rfl⟩, Tryz.sizeOf51⟩
instance : SliceT Tryz.prog 51 164 9 152 (.agg #[.int .i64 0, .int .i64 0, .int .i64 0, .slice none 0 0, .slice none 0 0, .slice none 0 0, .slice none 0 0, .slice none 0 0, .bool false]) := ⟨Tryz.underlying51, ⟨Tryz.t164, by kernel_rfl, rfl, rfl, rfl, rfl⟩, by decide⟩
instance : AggT Tryz.prog 52 10 := ⟨Tryz.isAgg52, Tryz.sizeOf52⟩
instance : VarT Tryz.prog 52 [.slice none 0 0, .slice none 0 0, .slice none 0 0, .slice none 0 0, .int .i64 0, .int .i64 0, .int .i64 0, .int .i64 0, .bool false, .slice none 0 0] := ⟨fun W => ⟨_, Tryz.zeroValue52 W, rfl⟩, Tryz.sizeOf52⟩
instance : FldA Tryz.prog 52 0 0 := ⟨fun b o W => by simp [Instr.fieldAt, Instr.sureAddr, fieldPlace, go_sem, add_plain]⟩
instance : FldA Tryz.prog 52 1 9 := ⟨fun b o W => by simp [Instr.fieldAt, Instr.sureAddr, fieldPlace, go_sem, add_plain]⟩
instance : AggT Tryz.prog 53 10 := ⟨Tryz.isAgg53, Tryz.sizeOf53⟩
instance : VarT Tryz.prog 53 [.slice none 0 0, .slice none 0 0, .slice none 0 0, .slice none 0 0, .int .i64 0, .int .i64 0, .int .i64 0, .int .i64 0, .bool false, .slice none 0 0] := ⟨fun W => ⟨_, Tryz.zeroValue53 W, rfl⟩, Tryz.sizeOf53⟩
instance : FldA Tryz.prog 53 0 0 := ⟨fun b o W => by simp [Instr.fieldAt, Instr.sureAddr, fieldPlace, go_sem, add_plain]⟩
instance : FldA Tryz.prog 53 1 9 := ⟨fun b o W => by simp [Instr.fieldAt, Instr.sureAddr, fieldPlace, go_sem, add_plain]⟩
instance : OneT Tryz.prog 58 := ⟨Tryz.isAgg58, Tryz.sizeOf58⟩
instance : VarT Tryz.prog 58 [.pointer none] := ⟨fun W => ⟨_, Tryz.zeroValue58 W, rfl⟩, Tryz.sizeOf58⟩
instance : OneT Tryz.prog 59 := ⟨Tryz.isAgg59, Tryz.sizeOf59⟩
instance : VarT Tryz.prog 59 [.int .i64 0] := ⟨fun W => ⟨_, Tryz.zeroValue59 W, rfl⟩, Tryz.sizeOf59⟩
instance : IntT Tryz.prog 59 .i64 := ⟨Tryz.underlying59⟩
instance : AggT Tryz.prog 70 2 := ⟨Tryz.isAgg70, Tryz.sizeOf70⟩
instance : VarT Tryz.prog 70 [.int .i64 0, .int .i64 0] := ⟨fun W => ⟨_, Tryz.zeroValue70 W, rfl⟩, Tryz.sizeOf70⟩
instance : FldA Tryz.prog 70 0 0 := ⟨fun b o W => by simp [Instr.fieldAt, Instr.sureAddr, fieldPlace, go_sem, add_plain]⟩
instance : FldA Tryz.prog 70 1 1 := ⟨fun b o W => by simp [Instr.fieldAt, Instr.sureAddr, fieldPlace, go_sem, add_plain]⟩
instance : AggT Tryz.prog 71 2 := ⟨Tryz.isAgg71, Tryz.sizeOf71⟩
instance : VarT Tryz.prog 71 [.int .i64 0, .int .i64 0] := ⟨fun W => ⟨_, Tryz.zeroValue71 W, rfl⟩, Tryz.sizeOf71⟩
instance : FldA Tryz.prog 71 0 0 := ⟨fun b o W => by simp [Instr.fieldAt, Instr.sureAddr, fieldPlace, go_sem, add_plain]⟩
instance : FldA Tryz.prog 71 1 1 := ⟨fun b o W => by simp [Instr.fieldAt, Instr.sureAddr, fieldPlace, go_sem, add_plain]⟩
instance : AggT Tryz.prog 72 5 := ⟨Tryz.isAgg72, Tryz.sizeOf72⟩
instance : VarT Tryz.prog 72 [.string ⟨#[]⟩, .int .i64 0, .int .i64 0, .int .i64 0, .int .i64 0] := ⟨fun W => ⟨_, Tryz.zeroValue72 W, rfl⟩, Tryz.sizeOf72⟩
instance : FldA Tryz.prog 72 0 0 := ⟨fun b o W => by simp [Instr.fieldAt, Instr.sureAddr, fieldPlace, go_sem, add_plain]⟩
instance : FldA Tryz.prog 72 1 1 := ⟨fun b o W => by simp [Instr.fieldAt, Instr.sureAddr, fieldPlace, go_sem, add_plain]⟩
instance : FldA Tryz.prog 72 2 2 := ⟨fun b o W => by simp [Instr.fieldAt, Instr.sureAddr, fieldPlace, go_sem, add_plain]⟩
instance : FldA Tryz.prog 72 3 4 := ⟨fun b o W => by simp [Instr.fieldAt, Instr.sureAddr, fieldPlace, go_sem, add_plain]⟩
instance : AggT Tryz.prog 73 5 := ⟨Tryz.isAgg73, Tryz.sizeOf73⟩
instance : VarT Tryz.prog 73 [.string ⟨#[]⟩, .int .i64 0, .int .i64 0, .int .i64 0, .int .i64 0] := ⟨fun W => ⟨_, Tryz.zeroValue73 W, rfl⟩, Tryz.sizeOf73⟩
instance : FldA Tryz.prog 73 0 0 := ⟨fun b o W => by simp [Instr.fieldAt, Instr.sureAddr, fieldPlace, go_sem, add_plain]⟩
instance : FldA Tryz.prog 73 1 1 := ⟨fun b o W => by simp [Instr.fieldAt, Instr.sureAddr, fieldPlace, go_sem, add_plain]⟩
instance : FldA Tryz.prog 73 2 2 := ⟨fun b o W => by simp [Instr.fieldAt, Instr.sureAddr, fieldPlace, go_sem, add_plain]⟩
instance : FldA Tryz.prog 73 3 4 := ⟨fun b o W => by simp [Instr.fieldAt, Instr.sureAddr, fieldPlace, go_sem, add_plain]⟩
instance : OneT Tryz.prog 74 := ⟨Tryz.isAgg74, Tryz.sizeOf74⟩
instance : VarT Tryz.prog 74 [.slice none 0 0] := ⟨fun W => ⟨_, Tryz.zeroValue74 W, rfl⟩, Tryz.sizeOf74⟩
instance : SliceT Tryz.prog 74 33 5 56 (.agg #[.int .i64 0, .slice none 0 0, .int .i64 0, .int .i64 0, .int .i64 0]) := ⟨Tryz.underlying74, ⟨Tryz.t33, by kernel_rfl, rfl, rfl, rfl, rfl⟩, by decide⟩
instance : AggT Tryz.prog 75 3 := ⟨Tryz.isAgg75, Tryz.sizeOf75⟩
instance : VarT Tryz.prog 75 [.slice none 0 0, .slice none 0 0, .slice none 0 0] := ⟨fun W => ⟨_, Tryz.zeroValue75 W, rfl⟩, Tryz.sizeOf75⟩
instance : FldA Tryz.prog 75 0 0 := ⟨fun b o W => by simp [Instr.fieldAt, Instr.sureAddr, fieldPlace, go_sem, add_plain]⟩
instance : FldA Tryz.prog 75 1 1 := ⟨fun b o W => by simp [Instr.fieldAt, Instr.sureAddr, fieldPlace, go_sem, add_plain]⟩
instance : FldA Tryz.prog 75 2 2 := ⟨fun b o W => by simp [Instr.fieldAt, Instr.sureAddr, fieldPlace, go_sem, add_plain]⟩
instance : AggT Tryz.prog 76 3 := ⟨Tryz.isAgg76, Tryz.sizeOf76⟩
instance : VarT Tryz.prog 76 [.slice none 0 0, .slice none 0 0, .slice none 0 0] := ⟨fun W => ⟨_, Tryz.zeroValue76 W, rfl⟩, Tryz.sizeOf76⟩
instance : FldA Tryz.prog 76 0 0 := ⟨fun b o W => by simp [Instr.fieldAt, Instr.sureAddr, fieldPlace, go_sem, add_plain]⟩
instance : FldA Tryz.prog 76 1 1 := ⟨fun b o W => by simp [Instr.fieldAt, Instr.sureAddr, fieldPlace, go_sem, add_plain]⟩
instance : FldA Tryz.prog 76 2 2 := ⟨fun b o W => by simp [Instr.fieldAt, Instr.sureAddr, fieldPlace, go_sem, add_plain]⟩
instance : AggT Tryz.prog 96 3 := ⟨Tryz.isAgg96, Tryz.sizeOf96⟩
instance : VarT Tryz.prog 96 [.pointer none, .slice none 0 0, .slice none 0 0] := ⟨fun W => ⟨_, Tryz.zeroValue96 W, rfl⟩, Tryz.sizeOf96⟩
instance : FldA Tryz.prog 96 0 0 := ⟨fun b o W => by simp [Instr.fieldAt, Instr.sureAddr, fieldPlace, go_sem, add_plain]⟩
instance : FldA Tryz.prog 96 1 1 := ⟨fun b o W => by simp [Instr.fieldAt, Instr.sureAddr, fieldPlace, go_sem, add_plain]⟩
instance : FldA Tryz.prog 96 2 2 := ⟨fun b o W => by simp [Instr.fieldAt, Instr.sureAddr, fieldPlace, go_sem, add_plain]⟩
instance : AggT Tryz.prog 97 3 := ⟨Tryz.isAgg97, Tryz.sizeOf97⟩
instance : VarT Tryz.prog 97 [.pointer none, .slice none 0 0, .slice none 0 0] := ⟨fun W => ⟨_, Tryz.zeroValue97 W, rfl⟩, Tryz.sizeOf97⟩
instance : FldA Tryz.prog 97 0 0 := ⟨fun b o W => by simp [Instr.fieldAt, Instr.sureAddr, fieldPlace, go_sem, add_plain]⟩
instance : FldA Tryz.prog 97 1 1 := ⟨fun b o W => by simp [Instr.fieldAt, Instr.sureAddr, fieldPlace, go_sem, add_plain]⟩
instance : FldA Tryz.prog 97 2 2 := ⟨fun b o W => by simp [Instr.fieldAt, Instr.sureAddr, fieldPlace, go_sem, add_plain]⟩
instance : OneT Tryz.prog 99 := ⟨Tryz.isAgg99, Tryz.sizeOf99⟩
instance : VarT Tryz.prog 99 [.slice none 0 0] := ⟨fun W => ⟨_, Tryz.zeroValue99 W, rfl⟩, Tryz.sizeOf99⟩
instance : SliceT Tryz.prog 99 4 1 1 (.bool false) := ⟨Tryz.underlying99, ⟨Tryz.t4, by kernel_rfl, rfl, rfl, rfl, rfl⟩, by decide⟩
instance : OneT Tryz.prog 102 := ⟨Tryz.isAgg102, Tryz.sizeOf102⟩
instance : VarT Tryz.prog 102 [.pointer none] := ⟨fun W => ⟨_, Tryz.zeroValue102 W, rfl⟩, Tryz.sizeOf102⟩
instance : OneT Tryz.prog 107 := ⟨Tryz.isAgg107, Tryz.sizeOf107⟩
instance : VarT Tryz.prog 107 [.pointer none] := ⟨fun W => ⟨_, Tryz.zeroValue107 W, rfl⟩, Tryz.sizeOf107⟩
instance : AggT Tryz.prog 110 4 := ⟨Tryz.isAgg110, Tryz.sizeOf110⟩
instance : VarT Tryz.prog 110 [.slice none 0 0, .slice none 0 0, .slice none 0 0, .slice none 0 0] := ⟨fun W => ⟨_, Tryz.zeroValue110 W, rfl⟩, Tryz.sizeOf110⟩
instance : FldA Tryz.prog 110 0 0 := ⟨fun b o W => by simp [Instr.fieldAt, Instr.sureAddr, fieldPlace, go_sem, add_plain]⟩
instance : FldA Tryz.prog 110 1 1 := ⟨fun b o W => by simp [Instr.fieldAt, Instr.sureAddr, fieldPlace, go_sem, add_plain]⟩
instance : FldA Tryz.prog 110 2 2 := ⟨fun b o W => by simp [Instr.fieldAt, Instr.sureAddr, fieldPlace, go_sem, add_plain]⟩
instance : FldA Tryz.prog 110 3 3 := ⟨fun b o W => by simp [Instr.fieldAt, Instr.sureAddr, fieldPlace, go_sem, add_plain]⟩
instance : AggT Tryz.prog 111 4 := ⟨Tryz.isAgg111, Tryz.sizeOf111⟩
instance : VarT Tryz.prog 111 [.slice none 0 0, .slice none 0 0, .slice none 0 0, .slice none 0 0] := ⟨fun W => ⟨_, Tryz.zeroValue111 W, rfl⟩, Tryz.sizeOf111⟩
instance : FldA Tryz.prog 111 0 0 := ⟨fun b o W => by simp [Instr.fieldAt, Instr.sureAddr, fieldPlace, go_sem, add_plain]⟩
instance : FldA Tryz.prog 111 1 1 := ⟨fun b o W => by simp [Instr.fieldAt, Instr.sureAddr, fieldPlace, go_sem, add_plain]⟩
instance : FldA Tryz.prog 111 2 2 := ⟨fun b o W => by simp [Instr.fieldAt, Instr.sureAddr, fieldPlace, go_sem, add_plain]⟩
instance : FldA Tryz.prog 111 3 3 := ⟨fun b o W => by simp [Instr.fieldAt, Instr.sureAddr, fieldPlace, go_sem, add_plain]⟩
instance : AggT Tryz.prog 112 13 := ⟨Tryz.isAgg112, Tryz.sizeOf112⟩
instance : VarT Tryz.prog 112 [.pointer none, .pointer none, .pointer none, .slice none 0 0, .slice none 0 0, .slice none 0 0, .slice none 0 0, .slice none 0 0, .slice none 0 0, .slice none 0 0, .bool false, .int .i64 0, .bool false] := ⟨fun W => ⟨_, Tryz.zeroValue112 W, rfl⟩, Tryz.sizeOf112⟩
instance : FldA Tryz.prog 112 0 0 := ⟨fun b o W => by simp [Instr.fieldAt, Instr.sureAddr, fieldPlace, go_sem, add_plain]⟩
instance : FldA Tryz.prog 112 1 1 := ⟨fun b o W => by simp [Instr.fieldAt, Instr.sureAddr, fieldPlace, go_sem, add_plain]⟩
instance : FldA Tryz.prog 112 2 2 := ⟨fun b o W => by simp [Instr.fieldAt, Instr.sureAddr, fieldPlace, go_sem, add_plain]⟩
instance : FldA Tryz.prog 112 3 3 := ⟨fun b o W => by simp [Instr.fieldAt, Instr.sureAddr, fieldPlace, go_sem, add_plain]⟩
instance : FldA Tryz.prog 112 4 4 := ⟨fun b o W => by simp [Instr.fieldAt, Instr.sureAddr, fieldPlace, go_sem, add_plain]⟩
instance : FldA Tryz.prog 112 5 5 := ⟨fun b o W => by simp [Instr.fieldAt, Instr.sureAddr, fieldPlace, go_sem, add_plain]⟩
instance : FldA Tryz.prog 112 6 6 := ⟨fun b o W => by simp [Instr.fieldAt, Instr.sureAddr, fieldPlace, go_sem, add_plain]⟩
instance : FldA Tryz.prog 112 7 10 := ⟨fun b o W => by simp [Instr.fieldAt, Instr.sureAddr, fieldPlace, go_sem, add_plain]⟩
instance : FldA Tryz.prog 112 8 11 := ⟨fun b o W => by simp [Instr.fieldAt, Instr.sureAddr, fieldPlace, go_sem, add_plain]⟩
instance : FldA Tryz.prog 112 9 12 := ⟨fun b o W => by simp [Instr.fieldAt, Instr.sureAddr, fieldPlace, go_sem, add_plain]⟩
instance : AggT Tryz.prog 113 13 := ⟨Tryz.isAgg113, Tryz.sizeOf113⟩
instance : VarT Tryz.prog 113 [.pointer none, .pointer none, .pointer none, .slice none 0 0, .slice none 0 0, .slice none 0 0, .slice none 0 0, .slice none 0 0, .slice none 0 0, .slice none 0 0, .bool false, .int .i64 0, .bool false] := ⟨fun W => ⟨_, Tryz.zeroValue113 W, rfl⟩, Tryz.sizeOf113⟩
instance : FldA Tryz.prog 113 0 0 := ⟨fun b o W => by simp [Instr.fieldAt, Instr.sureAddr, fieldPlace, go_sem, add_plain]⟩
instance : FldA Tryz.prog 113 1 1 := ⟨fun b o W => by simp [Instr.fieldAt, Instr.sureAddr, fieldPlace, go_sem, add_plain]⟩
instance : FldA Tryz.prog 113 2 2 := ⟨fun b o W => by simp [Instr.fieldAt, Instr.sureAddr, fieldPlace, go_sem, add_plain]⟩
instance : FldA Tryz.prog 113 3 3 := ⟨fun b o W => by simp [Instr.fieldAt, Instr.sureAddr, fieldPlace, go_sem, add_plain]⟩
instance : FldA Tryz.prog 113 4 4 := ⟨fun b o W => by simp [Instr.fieldAt, Instr.sureAddr, fieldPlace, go_sem, add_plain]⟩
instance : FldA Tryz.prog 113 5 5 := ⟨fun b o W => by simp [Instr.fieldAt, Instr.sureAddr, fieldPlace, go_sem, add_plain]⟩
instance : FldA Tryz.prog 113 6 6 := ⟨fun b o W => by simp [Instr.fieldAt, Instr.sureAddr, fieldPlace, go_sem, add_plain]⟩
instance : FldA Tryz.prog 113 7 10 := ⟨fun b o W => by simp [Instr.fieldAt, Instr.sureAddr, fieldPlace, go_sem, add_plain]⟩
instance : FldA Tryz.prog 113 8 11 := ⟨fun b o W => by simp [Instr.fieldAt, Instr.sureAddr, fieldPlace, go_sem, add_plain]⟩
instance : FldA Tryz.prog 113 9 12 := ⟨fun b o W => by simp [Instr.fieldAt, Instr.sureAddr, fieldPlace, go_sem, add_plain]⟩
instance : OneT Tryz.prog 126 := ⟨Tryz.isAgg126, Tryz.sizeOf126⟩
instance : VarT Tryz.prog 126 [.pointer none] := ⟨fun W => ⟨_, Tryz.zeroValue126 W, rfl⟩, Tryz.sizeOf126⟩
instance : AggT Tryz.prog 129 3 := ⟨Tryz.isAgg129, Tryz.sizeOf129⟩
instance : VarT Tryz.prog 129 [.string ⟨#[]⟩, .int .i64 0, .int .i64 0] := ⟨fun W => ⟨_, Tryz.zeroValue129 W, rfl⟩, Tryz.sizeOf129⟩
instance : FldA Tryz.prog 129 0 0 := ⟨fun b o W => by simp [Instr.fieldAt, Instr.sureAddr, fieldPlace, go_sem, add_plain]⟩
instance : FldA Tryz.prog 129 1 1 := ⟨fun b o W => by simp [Instr.fieldAt, Instr.sureAddr, fieldPlace, go_sem, add_plain]⟩
instance : FldA Tryz.prog 129 2 2 := ⟨fun b o W => by simp [Instr.fieldAt, Instr.sureAddr, fieldPlace, go_sem, add_plain]⟩
instance : AggT Tryz.prog 130 3 := ⟨Tryz.isAgg130, Tryz.sizeOf130⟩
instance : VarT Tryz.prog 130 [.string ⟨#[]⟩, .int .i64 0, .int .i64 0] := ⟨fun W => ⟨_, Tryz.zeroValue130 W, rfl⟩, Tryz.sizeOf130⟩
instance : FldA Tryz.prog 130 0 0 := ⟨fun b o W => by simp [Instr.fieldAt, Instr.sureAddr, fieldPlace, go_sem, add_plain]⟩
instance : FldA Tryz.prog 130 1 1 := ⟨fun b o W => by simp [Instr.fieldAt, Instr.sureAddr, fieldPlace, go_sem, add_plain]⟩
instance : FldA Tryz.prog 130 2 2 := ⟨fun b o W => by simp [Instr.fieldAt, Instr.sureAddr, fieldPlace, go_sem, add_plain]⟩
instance : AggT Tryz.prog 131 4 := ⟨Tryz.isAgg131, Tryz.sizeOf131⟩
instance : VarT Tryz.prog 131 [.int .i64 0, .int .i64 0, .int .i64 0, .int .i64 0] := ⟨fun W => ⟨_, Tryz.zeroValue131 W, rfl⟩, Tryz.sizeOf131⟩
instance : FldA Tryz.prog 131 0 0 := ⟨fun b o W => by simp [Instr.fieldAt, Instr.sureAddr, fieldPlace, go_sem, add_plain]⟩
instance : FldA Tryz.prog 131 1 2 := ⟨fun b o W => by simp [Instr.fieldAt, Instr.sureAddr, fieldPlace, go_sem, add_plain]⟩
instance : AggT Tryz.prog 132 4 := ⟨Tryz.isAgg132, Tryz.sizeOf132⟩
instance : VarT Tryz.prog 132 [.int .i64 0, .int .i64 0, .int .i64 0, .int .i64 0] := ⟨fun W => ⟨_, Tryz.zeroValue132 W, rfl⟩, Tryz.sizeOf132⟩
instance : FldA Tryz.prog 132 0 0 := ⟨fun b o W => by simp [Instr.fieldAt, Instr.sureAddr, fieldPlace, go_sem, add_plain]⟩
instance : FldA Tryz.prog 132 1 2 := ⟨fun b o W => by simp [Instr.fieldAt, Instr.sureAddr, fieldPlace, go_sem, add_plain]⟩
instance : AggT Tryz.prog 134 4 := ⟨Tryz.isAgg134, Tryz.sizeOf134⟩
instance : VarT Tryz.prog 134 [.string ⟨#[]⟩, .int .i64 0, .int .i64 0, .bool false] := ⟨fun W => ⟨_, Tryz.zeroValue134 W, rfl⟩, Tryz.sizeOf134⟩
instance : FldA Tryz.prog 134 0 0 := ⟨fun b o W => by simp [Instr.fieldAt, Instr.sureAddr, fieldPlace, go_sem, add_plain]⟩
instance : FldA Tryz.prog 134 1 1 := ⟨fun b o W => by simp [Instr.fieldAt, Instr.sureAddr, fieldPlace, go_sem, add_plain]⟩
instance : FldA Tryz.prog 134 2 3 := ⟨fun b o W => by simp [Instr.fieldAt, Instr.sureAddr, fieldPlace, go_sem, add_plain]⟩
instance : AggT Tryz.prog 135 4 := ⟨Tryz.isAgg135, Tryz.sizeOf135⟩
instance : VarT Tryz.prog 135 [.string ⟨#[]⟩, .int .i64 0, .int .i64 0, .bool false] := ⟨fun W => ⟨_, Tryz.zeroValue135 W, rfl⟩, Tryz.sizeOf135⟩
instance : FldA Tryz.prog 135 0 0 := ⟨fun b o W => by simp [Instr.fieldAt, Instr.sureAddr, fieldPlace, go_sem, add_plain]⟩
instance : FldA Tryz.prog 135 1 1 := ⟨fun b o W => by simp [Instr.fieldAt, Instr.sureAddr, fieldPlace, go_sem, add_plain]⟩
instance : FldA Tryz.prog 135 2 3 := ⟨fun b o W => by simp [Instr.fieldAt, Instr.sureAddr, fieldPlace, go_sem, add_plain]⟩
instance : AggT Tryz.prog 136 2 := ⟨Tryz.isAgg136, Tryz.sizeOf136⟩
instance : VarT Tryz.prog 136 [.string ⟨#[]⟩, .slice none 0 0] := ⟨fun W => ⟨_, Tryz.zeroValue136 W, rfl⟩, Tryz.sizeOf136⟩
instance : FldA Tryz.prog 136 0 0 := ⟨fun b o W => by simp [Instr.fieldAt, Instr.sureAddr, fieldPlace, go_sem, add_plain]⟩
instance : FldA Tryz.prog 136 1 1 := ⟨fun b o W => by simp [Instr.fieldAt, Instr.sureAddr, fieldPlace, go_sem, add_plain]⟩
instance : AggT Tryz.prog 137 2 := ⟨Tryz.isAgg137, Tryz.sizeOf137⟩
instance : VarT Tryz.prog 137 [.string ⟨#[]⟩, .slice none 0 0] := ⟨fun W => ⟨_, Tryz.zeroValue137 W, rfl⟩, Tryz.sizeOf137⟩
instance : FldA Tryz.prog 137 0 0 := ⟨fun b o W => by simp [Instr.fieldAt, Instr.sureAddr, fieldPlace, go_sem, add_plain]⟩
instance : FldA Tryz.prog 137 1 1 := ⟨fun b o W => by simp [Instr.fieldAt, Instr.sureAddr, fieldPlace, go_sem, add_plain]⟩
instance : OneT Tryz.prog 138 := ⟨Tryz.isAgg138, Tryz.sizeOf138⟩
instance : VarT Tryz.prog 138 [.slice none 0 0] := ⟨fun W => ⟨_, Tryz.zeroValue138 W, rfl⟩, Tryz.sizeOf138⟩
instance : SliceT Tryz.prog 138 9 1 16 (.string ⟨#[]⟩) := ⟨Tryz.underlying138, ⟨Tryz.t9, by kernel_rfl, rfl, rfl, rfl, rfl⟩, by decide⟩
instance : OneT Tryz.prog 142 := ⟨Tryz.isAgg142, Tryz.sizeOf142⟩
instance : VarT Tryz.prog 142 [.slice none 0 0] := ⟨fun W => ⟨_, Tryz.zeroValue142 W, rfl⟩, Tryz.sizeOf142⟩
instance : SliceT Tryz.prog 142 145 2 16 (.agg #[.int .i64 0, .int .i64 0]) := ⟨Tryz.underlying142, ⟨Tryz.t145, by kernel_rfl, rfl, rfl, rfl, rfl⟩, by decide⟩
instance : AggT Tryz.prog 144 2 := ⟨Tryz.isAgg144, Tryz.sizeOf144⟩
instance : VarT Tryz.prog 144 [.int .i64 0, .int .i64 0] := ⟨fun W => ⟨_, Tryz.zeroValue144 W, rfl⟩, Tryz.sizeOf144⟩
instance : FldA Tryz.prog 144 0 0 := ⟨fun b o W => by simp [Instr.fieldAt, Instr.sureAddr, fieldPlace, go_sem, add_plain]⟩
instance : FldA Tryz.prog 144 1 1 := ⟨fun b o W => by simp [Instr.fieldAt, Instr.sureAddr, fieldPlace, go_sem, add_plain]⟩
instance : AggT Tryz.prog 145 2 := ⟨Tryz.isAgg145, Tryz.sizeOf145⟩
instance : VarT Tryz.prog 145 [.int .i64 0, .int .i64 0] := ⟨fun W => ⟨_, Tryz.zeroValue145 W, rfl⟩, Tryz.sizeOf145⟩
instance : FldA Tryz.prog 145 0 0 := ⟨fun b o W => by simp [Instr.fieldAt, Instr.sureAddr, fieldPlace, go_sem, add_plain]⟩
instance : FldA Tryz.prog 145 1 1 := ⟨fun b o W => by simp [Instr.fieldAt, Instr.sureAddr, fieldPlace, go_sem, add_plain]⟩
instance : OneT Tryz.prog 147 := ⟨Tryz.isAgg147, Tryz.sizeOf147⟩
instance : VarT Tryz.prog 147 [.map none] := ⟨fun W => ⟨_, Tryz.zeroValue147 W, rfl⟩, Tryz.sizeOf147⟩
instance : MapT Tryz.prog 147 71 71 (.agg #[.int .i64 0, .int .i64 0]) := ⟨Tryz.underlying147, Tryz.zeroValue71⟩
instance : OneT Tryz.prog 148 := ⟨Tryz.isAgg148, Tryz.sizeOf148⟩
instance : VarT Tryz.prog 148 [.map none] := ⟨fun W => ⟨_, Tryz.zeroValue148 W, rfl⟩, Tryz.sizeOf148⟩
instance : MapT Tryz.prog 148 71 3 (.int .i64 0) := ⟨Tryz.underlying148, Tryz.zeroValue3⟩
instance : OneT Tryz.prog 149 := ⟨Tryz.isAgg149, Tryz.sizeOf149⟩
instance : VarT Tryz.prog 149 [.map none] := ⟨fun W => ⟨_, Tryz.zeroValue149 W, rfl⟩, Tryz.sizeOf149⟩
instance : MapT Tryz.prog 149 3 153 (.agg #[.int .i64 0, .int .i64 0]) := ⟨Tryz.underlying149, Tryz.zeroValue153⟩
instance : OneT Tryz.prog 150 := ⟨Tryz.isAgg150, Tryz.sizeOf150⟩
instance : VarT Tryz.prog 150 [.map none] := ⟨fun W => ⟨_, Tryz.zeroValue150 W, rfl⟩, Tryz.sizeOf150⟩
instance : MapT Tryz.prog 150 3 3 (.int .i64 0) := ⟨Tryz.underlying150, Tryz.zeroValue3⟩
instance : AggT Tryz.prog 151 13 := ⟨Tryz.isAgg151, Tryz.sizeOf151⟩
instance : VarT Tryz.prog 151 [.slice none 0 0, .slice none 0 0, .slice none 0 0, .slice none 0 0, .int .i64 0, .int .i64 0, .int .i64 0, .int .i64 0, .bool false, .map none, .map none, .map none, .map none] := ⟨fun W => ⟨_, Tryz.zeroValue151 W, rfl⟩, Tryz.sizeOf151⟩
instance : FldA Tryz.prog 151 0 0 := ⟨fun b o W => by simp [Instr.fieldAt, Instr.sureAddr, fieldPlace, go_sem, add_plain]⟩
instance : FldA Tryz.prog 151 1 9 := ⟨fun b o W => by simp [Instr.fieldAt, Instr.sureAddr, fieldPlace, go_sem, add_plain]⟩
instance : FldA Tryz.prog 151 2 10 := ⟨fun b o W => by simp [Instr.fieldAt, Instr.sureAddr, fieldPlace, go_sem, add_plain]⟩
instance : FldA Tryz.prog 151 3 11 := ⟨fun b o W => by simp [Instr.fieldAt, Instr.sureAddr, fieldPlace, go_sem, add_plain]⟩
instance : FldA Tryz.prog 151 4 12 := ⟨fun b o W => by simp [Instr.fieldAt, Instr.sureAddr, fieldPlace, go_sem, add_plain]⟩
instance : AggT Tryz.prog 152 13 := ⟨Tryz.isAgg152, Tryz.sizeOf152⟩
instance : VarT Tryz.prog 152 [.slice none 0 0, .slice none 0 0, .slice none 0 0, .slice none 0 0, .int .i64 0, .int .i64 0, .int .i64 0, .int .i64 0, .bool false, .map none, .map none, .map none, .map none] := ⟨fun W => ⟨_, Tryz.zeroValue152 W, rfl⟩, Tryz.sizeOf152⟩
instance : FldA Tryz.prog 152 0 0 := ⟨fun b o W => by simp [Instr.fieldAt, Instr.sureAddr, fieldPlace, go_sem, add_plain]⟩
instance : FldA Tryz.prog 152 1 9 := ⟨fun b o W => by simp [Instr.fieldAt, Instr.sureAddr, fieldPlace, go_sem, add_plain]⟩
instance : FldA Tryz.prog 152 2 10 := ⟨fun b o W => by simp [Instr.fieldAt, Instr.sureAddr, fieldPlace, go_sem, add_plain]⟩
instance : FldA Tryz.prog 152 3 11 := ⟨fun b o W => by simp [Instr.fieldAt, Instr.sureAddr, fieldPlace, go_sem, add_plain]⟩
instance : FldA Tryz.prog 152 4 12 := ⟨fun b o W => by simp [Instr.fieldAt, Instr.sureAddr, fieldPlace, go_sem, add_plain]⟩
instance : AggT Tryz.prog 153 2 := ⟨Tryz.isAgg153, Tryz.sizeOf153⟩
instance : VarT Tryz.prog 153 [.int .i64 0, .int .i64 0] := ⟨fun W => ⟨_, Tryz.zeroValue153 W, rfl⟩, Tryz.sizeOf153⟩
instance : OneT Tryz.prog 161 := ⟨Tryz.isAgg161, Tryz.sizeOf161⟩
instance : VarT Tryz.prog 161 [.slice none 0 0] := ⟨fun W => ⟨_, Tryz.zeroValue161 W, rfl⟩, Tryz.sizeOf161⟩
instance : SliceT Tryz.prog 161 216 3 24 (.agg #[.int .i64 0, .int .i64 0, .int .i64 0]) := ⟨Tryz.underlying161, ⟨Tryz.t216, by kernel_rfl, rfl, rfl, rfl, rfl⟩, by decide⟩
instance : OneT Tryz.prog 162 := ⟨Tryz.isAgg162, Tryz.sizeOf162⟩
instance : VarT Tryz.prog 162 [.slice none 0 0] := ⟨fun W => ⟨_, Tryz.zeroValue162 W, rfl⟩, Tryz.sizeOf162⟩
instance : SliceT Tryz.prog 162 219 2 16 (.agg #[.int .i64 0, .int .i64 0]) := ⟨Tryz.underlying162, ⟨Tryz.t219, by kernel_rfl, rfl, rfl, rfl, rfl⟩, by decide⟩
instance : AggT Tryz.prog 163 9 := ⟨Tryz.isAgg163, Tryz.sizeOf163⟩
instance : VarT Tryz.prog 163 [.int .i64 0, .int .i64 0, .int .i64 0, .slice none 0 0, .slice none 0 0, .slice none 0 0, .slice none 0 0, .slice none 0 0, .bool false] := ⟨fun W => ⟨_, Tryz.zeroValue163 W, rfl⟩, Tryz.sizeOf163⟩
instance : FldA Tryz.prog 163 0 0 := ⟨fun b o W => by simp [Instr.fieldAt, Instr.sureAddr, fieldPlace, go_sem, add_plain]⟩
instance : FldA Tryz.prog 163 1 1 := ⟨fun b o W => by simp [Instr.fieldAt, Instr.sureAddr, fieldPlace, go_sem, add_plain]⟩
instance : FldA Tryz.prog 163 2 2 := ⟨fun b o W => by simp [Instr.fieldAt, Instr.sureAddr, fieldPlace, go_sem, add_plain]⟩
instance : FldA Tryz.prog 163 3 3 := ⟨fun b o W => by simp [Instr.fieldAt, Instr.sureAddr, fieldPlace, go_sem, add_plain]⟩
instance : FldA Tryz.prog 163 4 4 := ⟨fun b o W => by simp [Instr.fieldAt, Instr.sureAddr, fieldPlace, go_sem, add_plain]⟩
instance : FldA Tryz.prog 163 5 5 := ⟨fun b o W => by simp [Instr.fieldAt, Instr.sureAddr, fieldPlace, go_sem, add_plain]⟩
instance : FldA Tryz.prog 163 6 6 := ⟨fun b o W => by simp [Instr.fieldAt, Instr.sureAddr, fieldPlace, go_sem, add_plain]⟩
instance : FldA Tryz.prog 163 7 7 := ⟨fun b o W => by simp [Instr.fieldAt, Instr.sureAddr, fieldPlace, go_sem, add_plain]⟩
instance : FldA Tryz.prog 163 8 8 := ⟨fun b o W => by simp [Instr.fieldAt, Instr.sureAddr, fieldPlace, go_sem, add_plain]⟩
instance : AggT Tryz.prog 164 9 := ⟨Tryz.isAgg164, Tryz.sizeOf164⟩
instance : VarT Tryz.prog 164 [.int .i64 0, .int .i64 0, .int .i64 0, .slice none 0 0, .slice none 0 0, .slice none 0 0, .slice none 0 0, .slice none 0 0, .bool false] := ⟨fun W => ⟨_, Tryz.zeroValue164 W, rfl⟩, Tryz.sizeOf164⟩
instance : FldA Tryz.prog 164 0 0 := ⟨fun b o W => by simp [Instr.fieldAt, Instr.sureAddr, fieldPlace, go_sem, add_plain]⟩
instance : FldA Tryz.prog 164 1 1 := ⟨fun b o W => by simp [Instr.fieldAt, Instr.sureAddr, fieldPlace, go_sem, add_plain]⟩
instance : FldA Tryz.prog 164 2 2 := ⟨fun b o W => by simp [Instr.fieldAt, Instr.sureAddr, fieldPlace, go_sem, add_plain]⟩
instance : FldA Tryz.prog 164 3 3 := ⟨fun b o W => by simp [Instr.fieldAt, Instr.sureAddr, fieldPlace, go_sem, add_plain]⟩
instance : FldA Tryz.prog 164 4 4 := ⟨fun b o W => by simp [Instr.fieldAt, Instr.sureAddr, fieldPlace, go_sem, add_plain]⟩
instance : FldA Tryz.prog 164 5 5 := ⟨fun b o W => by simp [Instr.fieldAt, Instr.sureAddr, fieldPlace, go_sem, add_plain]⟩
instance : FldA Tryz.prog 164 6 6 := ⟨fun b o W => by simp [Instr.fieldAt, Instr.sureAddr, fieldPlace, go_sem, add_plain]⟩
instance : FldA Tryz.prog 164 7 7 := ⟨fun b o W => by simp [Instr.fieldAt, Instr.sureAddr, fieldPlace, go_sem, add_plain]⟩
instance : FldA Tryz.prog 164 8 8 := ⟨fun b o W => by simp [Instr.fieldAt, Instr.sureAddr, fieldPlace, go_sem, add_plain]⟩
instance : OneT Tryz.prog 174 := ⟨Tryz.isAgg174, Tryz.sizeOf174⟩
instance : VarT Tryz.prog 174 [.slice none 0 0] := ⟨fun W => ⟨_, Tryz.zeroValue174 W, rfl⟩, Tryz.sizeOf174⟩
instance : SliceT Tryz.prog 174 319 4 48 (.agg #[.int .i64 0, .int .i64 0, .bool false, .slice none 0 0]) := ⟨Tryz.underlying174, ⟨Tryz.t319, by kernel_rfl, rfl, rfl, rfl, rfl⟩, by decide⟩
instance : OneT Tryz.prog 175 := ⟨Tryz.isAgg175, Tryz.sizeOf175⟩
instance : VarT Tryz.prog 175 [.pointer none] := ⟨fun W => ⟨_, Tryz.zeroValue175 W, rfl⟩, Tryz.sizeOf175⟩
instance : OneT Tryz.prog 177 := ⟨Tryz.isAgg177, Tryz.sizeOf177⟩
instance : VarT Tryz.prog 177 [.pointer none] := ⟨fun W => ⟨_, Tryz.zeroValue177 W, rfl⟩, Tryz.sizeOf177⟩
instance : AggT Tryz.prog 179 14 := ⟨Tryz.isAgg179, Tryz.sizeOf179⟩
instance : VarT Tryz.prog 179 [.slice none 0 0, .slice none 0 0, .slice none 0 0, .slice none 0 0, .int .i64 0, .int .i64 0, .int .i64 0, .int .i64 0, .bool false, .slice none 0 0, .slice none 0 0, .pointer none, .pointer none, .slice none 0 0] := ⟨fun W => ⟨_, Tryz.zeroValue179 W, rfl⟩, Tryz.sizeOf179⟩
instance : FldA Tryz.prog 179 0 0 := ⟨fun b o W => by simp [Instr.fieldAt, Instr.sureAddr, fieldPlace, go_sem, add_plain]⟩
instance : FldA Tryz.prog 179 1 10 := ⟨fun b o W => by simp [Instr.fieldAt, Instr.sureAddr, fieldPlace, go_sem, add_plain]⟩
instance : FldA Tryz.prog 179 2 11 := ⟨fun b o W => by simp [Instr.fieldAt, Instr.sureAddr, fieldPlace, go_sem, add_plain]⟩
instance : FldA Tryz.prog 179 3 12 := ⟨fun b o W => by simp [Instr.fieldAt, Instr.sureAddr, fieldPlace, go_sem, add_plain]⟩
instance : FldA Tryz.prog 179 4 13 := ⟨fun b o W => by simp [Instr.fieldAt, Instr.sureAddr, fieldPlace, go_sem, add_plain]⟩
instance : AggT Tryz.prog 180 14 := ⟨Tryz.isAgg180, Tryz.sizeOf180⟩
instance : VarT Tryz.prog 180 [.slice none 0 0, .slice none 0 0, .slice none 0 0, .slice none 0 0, .int .i64 0, .int .i64 0, .int .i64 0, .int .i64 0, .bool false, .slice none 0 0, .slice none 0 0, .pointer none, .pointer none, .slice none 0 0] := ⟨fun W => ⟨_, Tryz.zeroValue180 W, rfl⟩, Tryz.sizeOf180⟩
instance : FldA Tryz.prog 180 0 0 := ⟨fun b o W => by simp [Instr.fieldAt, Instr.sureAddr, fieldPlace, go_sem, add_plain]⟩
instance : FldA Tryz.prog 180 1 10 := ⟨fun b o W => by simp [Instr.fieldAt, Instr.sureAddr, fieldPlace, go_sem, add_plain]⟩
instance : FldA Tryz.prog 180 2 11 := ⟨fun b o W => by simp [Instr.fieldAt, Instr.sureAddr, fieldPlace, go_sem, add_plain]⟩
instance : FldA Tryz.prog 180 3 12 := ⟨fun b o W => by simp [Instr.fieldAt, Instr.sureAddr, fieldPlace, go_sem, add_plain]⟩
instance : FldA Tryz.prog 180 4 13 := ⟨fun b o W => by simp [Instr.fieldAt, Instr.sureAddr, fieldPlace, go_sem, add_plain]⟩
instance : AggT Tryz.prog 185 5 := ⟨Tryz.isAgg185, Tryz.sizeOf185⟩
instance : VarT Tryz.prog 185 [.int .i64 0, .int .i64 0, .int .i64 0, .bool false, .bool false] := ⟨fun W => ⟨_, Tryz.zeroValue185 W, rfl⟩, Tryz.sizeOf185⟩
instance : FldA Tryz.prog 185 0 0 := ⟨fun b o W => by simp [Instr.fieldAt, Instr.sureAddr, fieldPlace, go_sem, add_plain]⟩
instance : FldA Tryz.prog 185 1 1 := ⟨fun b o W => by simp [Instr.fieldAt, Instr.sureAddr, fieldPlace, go_sem, add_plain]⟩
instance : FldA Tryz.prog 185 2 2 := ⟨fun b o W => by simp [Instr.fieldAt, Instr.sureAddr, fieldPlace, go_sem, add_plain]⟩
instance : FldA Tryz.prog 185 3 3 := ⟨fun b o W => by simp [Instr.fieldAt, Instr.sureAddr, fieldPlace, go_sem, add_plain]⟩
instance : FldA Tryz.prog 185 4 4 := ⟨fun b o W => by simp [Instr.fieldAt, Instr.sureAddr, fieldPlace, go_sem, add_plain]⟩
instance : AggT Tryz.prog 186 5 := ⟨Tryz.isAgg186, Tryz.sizeOf186⟩
instance : VarT Tryz.prog 186 [.int .i64 0, .int .i64 0, .int .i64 0, .bool false, .bool false] := ⟨fun W => ⟨_, Tryz.zeroValue186 W, rfl⟩, Tryz.sizeOf186⟩
instance : FldA Tryz.prog 186 0 0 := ⟨fun b o W => by simp [Instr.fieldAt, Instr.sureAddr, fieldPlace, go_sem, add_plain]⟩
instance : FldA Tryz.prog 186 1 1 := ⟨fun b o W => by simp [Instr.fieldAt, Instr.sureAddr, fieldPlace, go_sem, add_plain]⟩
instance : FldA Tryz.prog 186 2 2 := ⟨fun b o W => by simp [Instr.fieldAt, Instr.sureAddr, fieldPlace, go_sem, add_plain]⟩
instance : FldA Tryz.prog 186 3 3 := ⟨fun b o W => by simp [Instr.fieldAt, Instr.sureAddr, fieldPlace, go_sem, add_plain]⟩
instance : FldA Tryz.prog 186 4 4 := ⟨fun b o W => by simp [Instr.fieldAt, Instr.sureAddr, fieldPlace, go_sem, add_plain]⟩
instance : AggT Tryz.prog 188 40 := ⟨Tryz.isAgg188, Tryz.sizeOf188⟩
instance : AggT Tryz.prog 189 24 := ⟨Tryz.isAgg189, Tryz.sizeOf189⟩
instance : AggT Tryz.prog 215 3 := ⟨Tryz.isAgg215, Tryz.sizeOf215⟩
instance : VarT Tryz.prog 215 [.int .i64 0, .int .i64 0, .int .i64 0] := ⟨fun W => ⟨_, Tryz.zeroValue215 W, rfl⟩, Tryz.sizeOf215⟩
instance : FldA Tryz.prog 215 0 0 := ⟨fun b o W => by simp [Instr.fieldAt, Instr.sureAddr, fieldPlace, go_sem, add_plain]⟩
instance : FldA Tryz.prog 215 1 1 := ⟨fun b o W => by simp [Instr.fieldAt, Instr.sureAddr, fieldPlace, go_sem, add_plain]⟩
instance : FldA Tryz.prog 215 2 2 := ⟨fun b o W => by simp [Instr.fieldAt, Instr.sureAddr, fieldPlace, go_sem, add_plain]⟩
instance : AggT Tryz.prog 216 3 := ⟨Tryz.isAgg216, Tryz.sizeOf216⟩
instance : VarT Tryz.prog 216 [.int .i64 0, .int .i64 0, .int .i64 0] := ⟨fun W => ⟨_, Tryz.zeroValue216 W, rfl⟩, Tryz.sizeOf216⟩
instance : FldA Tryz.prog 216 0 0 := ⟨fun b o W => by simp [Instr.fieldAt, Instr.sureAddr, fieldPlace, go_sem, add_plain]⟩
instance : FldA Tryz.prog 216 1 1 := ⟨fun b o W => by simp [Instr.fieldAt, Instr.sureAddr, fieldPlace, go_sem, add_plain]⟩
instance : FldA Tryz.prog 216 2 2 := ⟨fun b o W => by simp [Instr.fieldAt, Instr.sureAddr, fieldPlace, go_sem, add_plain]⟩
instance : AggT Tryz.prog 218 2 := ⟨Tryz.isAgg218, Tryz.sizeOf218⟩
instance : VarT Tryz.prog 218 [.int .i64 0, .int .i64 0] := ⟨fun W => ⟨_, Tryz.zeroValue218 W, rfl⟩, Tryz.sizeOf218⟩
instance : FldA Tryz.prog 218 0 0 := ⟨fun b o W => by simp [Instr.fieldAt, Instr.sureAddr, fieldPlace, go_sem, add_plain]⟩
instance : FldA Tryz.prog 218 1 1 := ⟨fun b o W => by simp [Instr.fieldAt, Instr.sureAddr, fieldPlace, go_sem, add_plain]⟩
instance : AggT Tryz.prog 219 2 := ⟨Tryz.isAgg219, Tryz.sizeOf219⟩
instance : VarT Tryz.prog 219 [.int .i64 0, .int .i64 0] := ⟨fun W => ⟨_, Tryz.zeroValue219 W, rfl⟩, Tryz.sizeOf219⟩
instance : FldA Tryz.prog 219 0 0 := ⟨fun b o W => by simp [Instr.fieldAt, Instr.sureAddr, fieldPlace, go_sem, add_plain]⟩
instance : FldA Tryz.prog 219 1 1 := ⟨fun b o W => by simp [Instr.fieldAt, Instr.sureAddr, fieldPlace, go_sem, add_plain]⟩
instance : OneT Tryz.prog 220 := ⟨Tryz.isAgg220, Tryz.sizeOf220⟩
instance : VarT Tryz.prog 220 [.map none] := ⟨fun W => ⟨_, Tryz.zeroValue220 W, rfl⟩, Tryz.sizeOf220⟩
instance : MapT Tryz.prog 220 71 4 (.bool false) := ⟨Tryz.underlying220, Tryz.zeroValue4⟩
instance : OneT Tryz.prog 225 := ⟨Tryz.isAgg225, Tryz.sizeOf225⟩
instance : VarT Tryz.prog 225 [.pointer none] := ⟨fun W => ⟨_, Tryz.zeroValue225 W, rfl⟩, Tryz.sizeOf225⟩
instance : OneT Tryz.prog 234 := ⟨Tryz.isAgg234, Tryz.sizeOf234⟩
instance : VarT Tryz.prog 234 [.map none] := ⟨fun W => ⟨_, Tryz.zeroValue234 W, rfl⟩, Tryz.sizeOf234⟩
instance : MapT Tryz.prog 234 3 28 (.slice none 0 0) := ⟨Tryz.underlying234, Tryz.zeroValue28⟩
instance : OneT Tryz.prog 235 := ⟨Tryz.isAgg235, Tryz.sizeOf235⟩
instance : VarT Tryz.prog 235 [.map none] := ⟨fun W => ⟨_, Tryz.zeroValue235 W, rfl⟩, Tryz.sizeOf235⟩
instance : MapT Tryz.prog 235 3 162 (.slice none 0 0) := ⟨Tryz.underlying235, Tryz.zeroValue162⟩
instance : AggT Tryz.prog 236 5 := ⟨Tryz.isAgg236, Tryz.sizeOf236⟩
instance : VarT Tryz.prog 236 [.int .i64 0, .map none, .map none, .map none, .map none] := ⟨fun W => ⟨_, Tryz.zeroValue236 W, rfl⟩, Tryz.sizeOf236⟩
instance : FldA Tryz.prog 236 0 0 := ⟨fun b o W => by simp [Instr.fieldAt, Instr.sureAddr, fieldPlace, go_sem, add_plain]⟩
instance : FldA Tryz.prog 236 1 1 := ⟨fun b o W => by simp [Instr.fieldAt, Instr.sureAddr, fieldPlace, go_sem, add_plain]⟩
instance : FldA Tryz.prog 236 2 2 := ⟨fun b o W => by simp [Instr.fieldAt, Instr.sureAddr, fieldPlace, go_sem, add_plain]⟩
instance : FldA Tryz.prog 236 3 3 := ⟨fun b o W => by simp [Instr.fieldAt, Instr.sureAddr, fieldPlace, go_sem, add_plain]⟩
instance : FldA Tryz.prog 236 4 4 := ⟨fun b o W => by simp [Instr.fieldAt, Instr.sureAddr, fieldPlace, go_sem, add_plain]⟩
instance : AggT Tryz.prog 237 5 := ⟨Tryz.isAgg237, Tryz.sizeOf237⟩
instance : VarT Tryz.prog 237 [.int .i64 0, .map none, .map none, .map none, .map none] := ⟨fun W => ⟨_, Tryz.zeroValue237 W, rfl⟩, Tryz.sizeOf237⟩
instance : FldA Tryz.prog 237 0 0 := ⟨fun b o W => by simp [Instr.fieldAt, Instr.sureAddr, fieldPlace, go_sem, add_plain]⟩
instance : FldA Tryz.prog 237 1 1 := ⟨fun b o W => by simp [Instr.fieldAt, Instr.sureAddr, fieldPlace, go_sem, add_plain]⟩
instance : FldA Tryz.prog 237 2 2 := ⟨fun b o W => by simp [Instr.fieldAt, Instr.sureAddr, fieldPlace, go_sem, add_plain]⟩
instance : FldA Tryz.prog 237 3 3 := ⟨fun b o W => by simp [Instr.fieldAt, Instr.sureAddr, fieldPlace, go_sem, add_plain]⟩
instance : FldA Tryz.prog 237 4 4 := ⟨fun b o W => by simp [Instr.fieldAt, Instr.sureAddr, fieldPlace, go_sem, add_plain]⟩
instance : OneT Tryz.prog 238 := ⟨Tryz.isAgg238, Tryz.sizeOf238⟩
instance : VarT Tryz.prog 238 [.map none] := ⟨fun W => ⟨_, Tryz.zeroValue238 W, rfl⟩, Tryz.sizeOf238⟩
instance : MapT Tryz.prog 238 322 4 (.bool false) := ⟨Tryz.underlying238, Tryz.zeroValue4⟩
instance : AggT Tryz.prog 239 2 := ⟨Tryz.isAgg239, Tryz.sizeOf239⟩
instance : VarT Tryz.prog 239 [.pointer none, .map none] := ⟨fun W => ⟨_, Tryz.zeroValue239 W, rfl⟩, Tryz.sizeOf239⟩
instance : FldA Tryz.prog 239 0 0 := ⟨fun b o W => by simp [Instr.fieldAt, Instr.sureAddr, fieldPlace, go_sem, add_plain]⟩
instance : FldA Tryz.prog 239 1 1 := ⟨fun b o W => by simp [Instr.fieldAt, Instr.sureAddr, fieldPlace, go_sem, add_plain]⟩
instance : AggT Tryz.prog 240 2 := ⟨Tryz.isAgg240, Tryz.sizeOf240⟩
instance : VarT Tryz.prog 240 [.pointer none, .map none] := ⟨fun W => ⟨_, Tryz.zeroValue240 W, rfl⟩, Tryz.sizeOf240⟩
instance : FldA Tryz.prog 240 0 0 := ⟨fun b o W => by simp [Instr.fieldAt, Instr.sureAddr, fieldPlace, go_sem, add_plain]⟩
instance : FldA Tryz.prog 240 1 1 := ⟨fun b o W => by simp [Instr.fieldAt, Instr.sureAddr, fieldPlace, go_sem, add_plain]⟩
instance : OneT Tryz.prog 248 := ⟨Tryz.isAgg248, Tryz.sizeOf248⟩
instance : VarT Tryz.prog 248 [.map none] := ⟨fun W => ⟨_, Tryz.zeroValue248 W, rfl⟩, Tryz.sizeOf248⟩
instance : MapT Tryz.prog 248 9 4 (.bool false) := ⟨Tryz.underlying248, Tryz.zeroValue4⟩
instance : OneT Tryz.prog 249 := ⟨Tryz.isAgg249, Tryz.sizeOf249⟩
instance : VarT Tryz.prog 249 [.map none] := ⟨fun W => ⟨_, Tryz.zeroValue249 W, rfl⟩, Tryz.sizeOf249⟩
instance : MapT Tryz.prog 249 3 4 (.bool false) := ⟨Tryz.underlying249, Tryz.zeroValue4⟩
instance : OneT Tryz.prog 254 := ⟨Tryz.isAgg254, Tryz.sizeOf254⟩
instance : VarT Tryz.prog 254 [.pointer none] := ⟨fun W => ⟨_, Tryz.zeroValue254 W, rfl⟩, Tryz.sizeOf254⟩
instance : OneT Tryz.prog 255 := ⟨Tryz.isAgg255, Tryz.sizeOf255⟩
instance : VarT Tryz.prog 255 [.slice none 0 0] := ⟨fun W => ⟨_, Tryz.zeroValue255 W, rfl⟩, Tryz.sizeOf255⟩
instance : SliceT Tryz.prog 255 142 1 24 (.slice none 0 0) := ⟨Tryz.underlying255, ⟨Tryz.t142, by kernel_rfl, rfl, rfl, rfl, rfl⟩, by decide⟩
instance : AggT Tryz.prog 256 4 := ⟨Tryz.isAgg256, Tryz.sizeOf256⟩
instance : VarT Tryz.prog 256 [.int .i64 0, .slice none 0 0, .slice none 0 0, .slice none 0 0] := ⟨fun W => ⟨_, Tryz.zeroValue256 W, rfl⟩, Tryz.sizeOf256⟩
instance : FldA Tryz.prog 256 0 0 := ⟨fun b o W => by simp [Instr.fieldAt, Instr.sureAddr, fieldPlace, go_sem, add_plain]⟩
instance : FldA Tryz.prog 256 1 1 := ⟨fun b o W => by simp [Instr.fieldAt, Instr.sureAddr, fieldPlace, go_sem, add_plain]⟩
instance : FldA Tryz.prog 256 2 2 := ⟨fun b o W => by simp [Instr.fieldAt, Instr.sureAddr, fieldPlace, go_sem, add_plain]⟩
instance : FldA Tryz.prog 256 3 3 := ⟨fun b o W => by simp [Instr.fieldAt, Instr.sureAddr, fieldPlace, go_sem, add_plain]⟩
instance : AggT Tryz.prog 257 4 := ⟨Tryz.isAgg257, Tryz.sizeOf257⟩
instance : VarT Tryz.prog 257 [.int .i64 0, .slice none 0 0, .slice none 0 0, .slice none 0 0] := ⟨fun W => ⟨_, Tryz.zeroValue257 W, rfl⟩, Tryz.sizeOf257⟩
instance : FldA Tryz.prog 257 0 0 := ⟨fun b o W => by simp [Instr.fieldAt, Instr.sureAddr, fieldPlace, go_sem, add_plain]⟩
instance : FldA Tryz.prog 257 1 1 := ⟨fun b o W => by simp [Instr.fieldAt, Instr.sureAddr, fieldPlace, go_sem, add_plain]⟩
instance : FldA Tryz.prog 257 2 2 := ⟨fun b o W => by simp [Instr.fieldAt, Instr.sureAddr, fieldPlace, go_sem, add_plain]⟩
instance : FldA Tryz.prog 257 3 3 := ⟨fun b o W => by simp [Instr.fieldAt, Instr.sureAddr, fieldPlace, go_sem, add_plain]⟩
instance : OneT Tryz.prog 276 := ⟨Tryz.isAgg276, Tryz.sizeOf276⟩
instance : VarT Tryz.prog 276 [.int .u64 0] := ⟨fun W => ⟨_, Tryz.zeroValue276 W, rfl⟩, Tryz.sizeOf276⟩
instance : IntT Tryz.prog 276 .u64 := ⟨Tryz.underlying276⟩
instance : AggT Tryz.prog 277 4 := ⟨Tryz.isAgg277, Tryz.sizeOf277⟩
instance : VarT Tryz.prog 277 [.int .i64 0, .int .i64 0, .int .i64 0, .int .i64 0] := ⟨fun W => ⟨_, Tryz.zeroValue277 W, rfl⟩, Tryz.sizeOf277⟩
instance : AggT Tryz.prog 278 3 := ⟨Tryz.isAgg278, Tryz.sizeOf278⟩
instance : VarT Tryz.prog 278 [.int .i64 0, .int .i64 0, .int .i64 0] := ⟨fun W => ⟨_, Tryz.zeroValue278 W, rfl⟩, Tryz.sizeOf278⟩
instance : OneT Tryz.prog 283 := ⟨Tryz.isAgg283, Tryz.sizeOf283⟩
instance : VarT Tryz.prog 283 [.int .i64 0] := ⟨fun W => ⟨_, Tryz.zeroValue283 W, rfl⟩, Tryz.sizeOf283⟩
instance : IntT Tryz.prog 283 .i64 := ⟨Tryz.underlying283⟩
instance : OneT Tryz.prog 290 := ⟨Tryz.isAgg290, Tryz.sizeOf290⟩
instance : VarT Tryz.prog 290 [.int .u32 0] := ⟨fun W => ⟨_, Tryz.zeroValue290 W, rfl⟩, Tryz.sizeOf290⟩
instance : IntT Tryz.prog 290 .u32 := ⟨Tryz.underlying290⟩
instance : OneT Tryz.prog 292 := ⟨Tryz.isAgg292, Tryz.sizeOf292⟩
instance : VarT Tryz.prog 292 [.int .u64 0] := ⟨fun W => ⟨_, Tryz.zeroValue292 W, rfl⟩, Tryz.sizeOf292⟩
instance : IntT Tryz.prog 292 .u64 := ⟨Tryz.underlying292⟩
instance : OneT Tryz.prog 294 := ⟨Tryz.isAgg294, Tryz.sizeOf294⟩
instance : VarT Tryz.prog 294 [.int .u64 0] := ⟨fun W => ⟨_, Tryz.zeroValue294 W, rfl⟩, Tryz.sizeOf294⟩
instance : IntT Tryz.prog 294 .u64 := ⟨Tryz.underlying294⟩
instance : OneT Tryz.prog 298 := ⟨Tryz.isAgg298, Tryz.sizeOf298⟩
instance : VarT Tryz.prog 298 [.pointer none] := ⟨fun W => ⟨_, Tryz.zeroValue298 W, rfl⟩, Tryz.sizeOf298⟩
instance : OneT Tryz.prog 300 := ⟨Tryz.isAgg300, Tryz.sizeOf300⟩
instance : VarT Tryz.prog 300 [.pointer none] := ⟨fun W => ⟨_, Tryz.zeroValue300 W, rfl⟩, Tryz.sizeOf300⟩
instance : AggT Tryz.prog 304 4 := ⟨Tryz.isAgg304, Tryz.sizeOf304⟩
instance : VarT Tryz.prog 304 [.pointer none, .pointer none, .pointer none, .string ⟨#[]⟩] := ⟨fun W => ⟨_, Tryz.zeroValue304 W, rfl⟩, Tryz.sizeOf304⟩
instance : FldA Tryz.prog 304 0 0 := ⟨fun b o W => by simp [Instr.fieldAt, Instr.sureAddr, fieldPlace, go_sem, add_plain]⟩
instance : FldA Tryz.prog 304 1 1 := ⟨fun b o W => by simp [Instr.fieldAt, Instr.sureAddr, fieldPlace, go_sem, add_plain]⟩
instance : FldA Tryz.prog 304 2 2 := ⟨fun b o W => by simp [Instr.fieldAt, Instr.sureAddr, fieldPlace, go_sem, add_plain]⟩
instance : FldA Tryz.prog 304 3 3 := ⟨fun b o W => by simp [Instr.fieldAt, Instr.sureAddr, fieldPlace, go_sem, add_plain]⟩
instance : AggT Tryz.prog 305 4 := ⟨Tryz.isAgg305, Tryz.sizeOf305⟩
instance : VarT Tryz.prog 305 [.pointer none, .pointer none, .pointer none, .string ⟨#[]⟩] := ⟨fun W => ⟨_, Tryz.zeroValue305 W, rfl⟩, Tryz.sizeOf305⟩
instance : FldA Tryz.prog 305 0 0 := ⟨fun b o W => by simp [Instr.fieldAt, Instr.sureAddr, fieldPlace, go_sem, add_plain]⟩
instance : FldA Tryz.prog 305 1 1 := ⟨fun b o W => by simp [Instr.fieldAt, Instr.sureAddr, fieldPlace, go_sem, add_plain]⟩
instance : FldA Tryz.prog 305 2 2 := ⟨fun b o W => by simp [Instr.fieldAt, Instr.sureAddr, fieldPlace, go_sem, add_plain]⟩
instance : FldA Tryz.prog 305 3 3 := ⟨fun b o W => by simp [Instr.fieldAt, Instr.sureAddr, fieldPlace, go_sem, add_plain]⟩
instance : AggT Tryz.prog 306 0 := ⟨Tryz.isAgg306, Tryz.sizeOf306⟩
instance : VarT Tryz.prog 306 [] := ⟨fun W => ⟨_, Tryz.zeroValue306 W, rfl⟩, Tryz.sizeOf306⟩
instance : AggT Tryz.prog 307 0 := ⟨Tryz.isAgg307, Tryz.sizeOf307⟩
instance : VarT Tryz.prog 307 [] := ⟨fun W => ⟨_, Tryz.zeroValue307 W, rfl⟩, Tryz.sizeOf307⟩
instance : AggT Tryz.prog 308 0 := ⟨Tryz.isAgg308, Tryz.sizeOf308⟩
instance : VarT Tryz.prog 308 [] := ⟨fun W => ⟨_, Tryz.zeroValue308 W, rfl⟩, Tryz.sizeOf308⟩
instance : OneT Tryz.prog 309 := ⟨Tryz.isAgg309, Tryz.sizeOf309⟩
instance : VarT Tryz.prog 309 [.int .u8 0] := ⟨fun W => ⟨_, Tryz.zeroValue309 W, rfl⟩, Tryz.sizeOf309⟩
instance : IntT Tryz.prog 309 .u8 := ⟨Tryz.underlying309⟩
instance : OneT Tryz.prog 310 := ⟨Tryz.isAgg310, Tryz.sizeOf310⟩
instance : VarT Tryz.prog 310 [.int .u8 0] := ⟨fun W => ⟨_, Tryz.zeroValue310 W, rfl⟩, Tryz.sizeOf310⟩
instance : IntT Tryz.prog 310 .u8 := ⟨Tryz.underlying310⟩
instance : OneT Tryz.prog 312 := ⟨Tryz.isAgg312, Tryz.sizeOf312⟩
instance : VarT Tryz.prog 312 [.pointer none] := ⟨fun W => ⟨_, Tryz.zeroValue312 W, rfl⟩, Tryz.sizeOf312⟩
instance : OneT Tryz.prog 313 := ⟨Tryz.isAgg313, Tryz.sizeOf313⟩
instance : VarT Tryz.prog 313 [.int .i32 0] := ⟨fun W => ⟨_, Tryz.zeroValue313 W, rfl⟩, Tryz.sizeOf313⟩
instance : IntT Tryz.prog 313 .i32 := ⟨Tryz.underlying313⟩
instance : OneT Tryz.prog 314 := ⟨Tryz.isAgg314, Tryz.sizeOf314⟩
instance : VarT Tryz.prog 314 [.int .i32 0] := ⟨fun W => ⟨_, Tryz.zeroValue314 W, rfl⟩, Tryz.sizeOf314⟩
instance : IntT Tryz.prog 314 .i32 := ⟨Tryz.underlying314⟩
instance : AggT Tryz.prog 315 11 := ⟨Tryz.isAgg315, Tryz.sizeOf315⟩
instance : VarT Tryz.prog 315 [.int .u64 0, .int .u64 0, .int .u32 0, .int .u8 0, .int .u8 0, .int .u8 0, .int .u8 0, .nilFunc, .pointer none, .int .i32 0, .int .i32 0] := ⟨fun W => ⟨_, Tryz.zeroValue315 W, rfl⟩, Tryz.sizeOf315⟩
instance : FldA Tryz.prog 315 0 0 := ⟨fun b o W => by simp [Instr.fieldAt, Instr.sureAddr, fieldPlace, go_sem, add_plain]⟩
instance : FldA Tryz.prog 315 1 1 := ⟨fun b o W => by simp [Instr.fieldAt, Instr.sureAddr, fieldPlace, go_sem, add_plain]⟩
instance : FldA Tryz.prog 315 2 2 := ⟨fun b o W => by simp [Instr.fieldAt, Instr.sureAddr, fieldPlace, go_sem, add_plain]⟩
instance : FldA Tryz.prog 315 3 3 := ⟨fun b o W => by simp [Instr.fieldAt, Instr.sureAddr, fieldPlace, go_sem, add_plain]⟩
instance : FldA Tryz.prog 315 4 4 := ⟨fun b o W => by simp [Instr.fieldAt, Instr.sureAddr, fieldPlace, go_sem, add_plain]⟩
instance : FldA Tryz.prog 315 5 5 := ⟨fun b o W => by simp [Instr.fieldAt, Instr.sureAddr, fieldPlace, go_sem, add_plain]⟩
instance : FldA Tryz.prog 315 6 6 := ⟨fun b o W => by simp [Instr.fieldAt, Instr.sureAddr, fieldPlace, go_sem, add_plain]⟩
instance : FldA Tryz.prog 315 7 7 := ⟨fun b o W => by simp [Instr.fieldAt, Instr.sureAddr, fieldPlace, go_sem, add_plain]⟩
instance : FldA Tryz.prog 315 8 8 := ⟨fun b o W => by simp [Instr.fieldAt, Instr.sureAddr, fieldPlace, go_sem, add_plain]⟩
instance : FldA Tryz.prog 315 9 9 := ⟨fun b o W => by simp [Instr.fieldAt, Instr.sureAddr, fieldPlace, go_sem, add_plain]⟩
instance : FldA Tryz.prog 315 10 10 := ⟨fun b o W => by simp [Instr.fieldAt, Instr.sureAddr, fieldPlace, go_sem, add_plain]⟩
instance : AggT Tryz.prog 316 11 := ⟨Tryz.isAgg316, Tryz.sizeOf316⟩
instance : VarT Tryz.prog 316 [.int .u64 0, .int .u64 0, .int .u32 0, .int .u8 0, .int .u8 0, .int .u8 0, .int .u8 0, .nilFunc, .pointer none, .int .i32 0, .int .i32 0] := ⟨fun W => ⟨_, Tryz.zeroValue316 W, rfl⟩, Tryz.sizeOf316⟩
instance : FldA Tryz.prog 316 0 0 := ⟨fun b o W => by simp [Instr.fieldAt, Instr.sureAddr, fieldPlace, go_sem, add_plain]⟩
instance : FldA Tryz.prog 316 1 1 := ⟨fun b o W => by simp [Instr.fieldAt, Instr.sureAddr, fieldPlace, go_sem, add_plain]⟩
instance : FldA Tryz.prog 316 2 2 := ⟨fun b o W => by simp [Instr.fieldAt, Instr.sureAddr, fieldPlace, go_sem, add_plain]⟩
instance : FldA Tryz.prog 316 3 3 := ⟨fun b o W => by simp [Instr.fieldAt, Instr.sureAddr, fieldPlace, go_sem, add_plain]⟩
instance : FldA Tryz.prog 316 4 4 := ⟨fun b o W => by simp [Instr.fieldAt, Instr.sureAddr, fieldPlace, go_sem, add_plain]⟩
instance : FldA Tryz.prog 316 5 5 := ⟨fun b o W => by simp [Instr.fieldAt, Instr.sureAddr, fieldPlace, go_sem, add_plain]⟩
instance : FldA Tryz.prog 316 6 6 := ⟨fun b o W => by simp [Instr.fieldAt, Instr.sureAddr, fieldPlace, go_sem, add_plain]⟩
instance : FldA Tryz.prog 316 7 7 := ⟨fun b o W => by simp [Instr.fieldAt, Instr.sureAddr, fieldPlace, go_sem, add_plain]⟩
instance : FldA Tryz.prog 316 8 8 := ⟨fun b o W => by simp [Instr.fieldAt, Instr.sureAddr, fieldPlace, go_sem, add_plain]⟩
instance : FldA Tryz.prog 316 9 9 := ⟨fun b o W => by simp [Instr.fieldAt, Instr.sureAddr, fieldPlace, go_sem, add_plain]⟩
instance : FldA Tryz.prog 316 10 10 := ⟨fun b o W => by simp [Instr.fieldAt, Instr.sureAddr, fieldPlace, go_sem, add_plain]⟩
instance : AggT Tryz.prog 318 4 := ⟨Tryz.isAgg318, Tryz.sizeOf318⟩
instance : VarT Tryz.prog 318 [.int .i64 0, .int .i64 0, .bool false, .slice none 0 0] := ⟨fun W => ⟨_, Tryz.zeroValue318 W, rfl⟩, Tryz.sizeOf318⟩
instance : FldA Tryz.prog 318 0 0 := ⟨fun b o W => by simp [Instr.fieldAt, Instr.sureAddr, fieldPlace, go_sem, add_plain]⟩
instance : FldA Tryz.prog 318 1 1 := ⟨fun b o W => by simp [Instr.fieldAt, Instr.sureAddr, fieldPlace, go_sem, add_plain]⟩
instance : FldA Tryz.prog 318 2 2 := ⟨fun b o W => by simp [Instr.fieldAt, Instr.sureAddr, fieldPlace, go_sem, add_plain]⟩
instance : FldA Tryz.prog 318 3 3 := ⟨fun b o W => by simp [Instr.fieldAt, Instr.sureAddr, fieldPlace, go_sem, add_plain]⟩
instance : AggT Tryz.prog 319 4 := ⟨Tryz.isAgg319, Tryz.sizeOf319⟩
instance : VarT Tryz.prog 319 [.int .i64 0, .int .i64 0, .bool false, .slice none 0 0] := ⟨fun W => ⟨_, Tryz.zeroValue319 W, rfl⟩, Tryz.sizeOf319⟩
instance : FldA Tryz.prog 319 0 0 := ⟨fun b o W => by simp [Instr.fieldAt, Instr.sureAddr, fieldPlace, go_sem, add_plain]⟩
instance : FldA Tryz.prog 319 1 1 := ⟨fun b o W => by simp [Instr.fieldAt, Instr.sureAddr, fieldPlace, go_sem, add_plain]⟩
instance : FldA Tryz.prog 319 2 2 := ⟨fun b o W => by simp [Instr.fieldAt, Instr.sureAddr, fieldPlace, go_sem, add_plain]⟩
instance : FldA Tryz.prog 319 3 3 := ⟨fun b o W => by simp [Instr.fieldAt, Instr.sureAddr, fieldPlace, go_sem, add_plain]⟩
instance : AggT Tryz.prog 321 2 := ⟨Tryz.isAgg321, Tryz.sizeOf321⟩
instance : VarT Tryz.prog 321 [.int .i64 0, .int .i64 0] := ⟨fun W => ⟨_, Tryz.zeroValue321 W, rfl⟩, Tryz.sizeOf321⟩
instance : FldA Tryz.prog 321 0 0 := ⟨fun b o W => by simp [Instr.fieldAt, Instr.sureAddr, fieldPlace, go_sem, add_plain]⟩
instance : FldA Tryz.prog 321 1 1 := ⟨fun b o W => by simp [Instr.fieldAt, Instr.sureAddr, fieldPlace, go_sem, add_plain]⟩
instance : AggT Tryz.prog 322 2 := ⟨Tryz.isAgg322, Tryz.sizeOf322⟩
instance : VarT Tryz.prog 322 [.int .i64 0, .int .i64 0] := ⟨fun W => ⟨_, Tryz.zeroValue322 W, rfl⟩, Tryz.sizeOf322⟩
instance : FldA Tryz.prog 322 0 0 := ⟨fun b o W => by simp [Instr.fieldAt, Instr.sureAddr, fieldPlace, go_sem, add_plain]⟩
instance : FldA Tryz.prog 322 1 1 := ⟨fun b o W => by simp [Instr.fieldAt, Instr.sureAddr, fieldPlace, go_sem, add_plain]⟩
instance : VarT Tryz.prog 323 [.pointer none] := ⟨fun W => ⟨_, Tryz.zeroValue323 W, rfl⟩, Tryz.sizeOf323⟩
instance : StructT Tryz.prog 27 [(0, 1), (1, 1), (2, 1), (3, 1), (4, 1), (5, 1), (6, 1), (7, 1), (8, 1)] := ⟨_, Tryz.underlying27, fun W => by simp [go_sem]⟩
instance : FieldT Tryz.prog 27 0 0 1 false := ⟨fun c W => by simp [Instr.field, part, asAgg, go_sem] <;> rfl⟩
instance : FieldT Tryz.prog 27 1 1 1 false := ⟨fun c W => by simp [Instr.field, part, asAgg, go_sem] <;> rfl⟩
instance : FieldT Tryz.prog 27 2 2 1 false := ⟨fun c W => by simp [Instr.field, part, asAgg, go_sem] <;> rfl⟩
instance : FieldT Tryz.prog 27 3 3 1 false := ⟨fun c W => by simp [Instr.field, part, asAgg, go_sem] <;> rfl⟩
instance : FieldT Tryz.prog 27 4 4 1 false := ⟨fun c W => by simp [Instr.field, part, asAgg, go_sem] <;> rfl⟩
instance : FieldT Tryz.prog 27 5 5 1 false := ⟨fun c W => by simp [Instr.field, part, asAgg, go_sem] <;> rfl⟩
instance : FieldT Tryz.prog 27 6 6 1 false := ⟨fun c W => by simp [Instr.field, part, asAgg, go_sem] <;> rfl⟩
instance : FieldT Tryz.prog 27 7 7 1 false := ⟨fun c W => by simp [Instr.field, part, asAgg, go_sem] <;> rfl⟩
instance : FieldT Tryz.prog 27 8 8 1 false := ⟨fun c W => by simp [Instr.field, part, asAgg, go_sem] <;> rfl⟩
instance : StructT Tryz.prog 30 [(0, 1), (1, 1), (2, 1), (3, 1), (4, 1)] := ⟨_, Tryz.underlying30, fun W => by simp [go_sem]⟩
instance : FieldT Tryz.prog 30 0 0 1 false := ⟨fun c W => by simp [Instr.field, part, asAgg, go_sem] <;> rfl⟩
instance : FieldT Tryz.prog 30 1 1 1 false := ⟨fun c W => by simp [Instr.field, part, asAgg, go_sem] <;> rfl⟩
instance : FieldT Tryz.prog 30 2 2 1 false := ⟨fun c W => by simp [Instr.field, part, asAgg, go_sem] <;> rfl⟩
instance : FieldT Tryz.prog 30 3 3 1 false := ⟨fun c W => by simp [Instr.field, part, asAgg, go_sem] <;> rfl⟩
instance : FieldT Tryz.prog 30 4 4 1 false := ⟨fun c W => by simp [Instr.field, part, asAgg, go_sem] <;> rfl⟩
instance : StructT Tryz.prog 33 [(0, 1), (1, 1), (2, 1), (3, 1), (4, 1)] := ⟨_, Tryz.underlying33, fun W => by simp [go_sem]⟩
instance : FieldT Tryz.prog 33 0 0 1 false := ⟨fun c W => by simp [Instr.field, part, asAgg, go_sem] <;> rfl⟩
instance : FieldT Tryz.prog 33 1 1 1 false := ⟨fun c W => by simp [Instr.field, part, asAgg, go_sem] <;> rfl⟩
instance : FieldT Tryz.prog 33 2 2 1 false := ⟨fun c W => by simp [Instr.field, part, asAgg, go_sem] <;> rfl⟩
instance : FieldT Tryz.prog 33 3 3 1 false := ⟨fun c W => by simp [Instr.field, part, asAgg, go_sem] <;> rfl⟩
instance : FieldT Tryz.prog 33 4 4 1 false := ⟨fun c W => by simp [Instr.field, part, asAgg, go_sem] <;> rfl⟩
instance : PtrT Tryz.prog 38 := ⟨by kernel_rfl⟩
instance : StructT Tryz.prog 53 [(0, 9), (9, 1)] := ⟨_, Tryz.underlying53, fun W => by simp [go_sem]⟩
instance : StructT Tryz.prog 71 [(0, 1), (1, 1)] := ⟨_, Tryz.underlying71, fun W => by simp [go_sem]⟩
instance : FieldT Tryz.prog 71 0 0 1 false := ⟨fun c W => by simp [Instr.field, part, asAgg, go_sem] <;> rfl⟩
instance : FieldT Tryz.prog 71 1 1 1 false := ⟨fun c W => by simp [Instr.field, part, asAgg, go_sem] <;> rfl⟩
instance : StructT Tryz.prog 73 [(0, 1), (1, 1), (2, 2), (4, 1)] := ⟨_, Tryz.underlying73, fun W => by simp [go_sem]⟩
instance : StructT Tryz.prog 76 [(0, 1), (1, 1), (2, 1)] := ⟨_, Tryz.underlying76, fun W => by simp [go_sem]⟩
instance : StructT Tryz.prog 97 [(0, 1), (1, 1), (2, 1)] := ⟨_, Tryz.underlying97, fun W => by simp [go_sem]⟩
instance : StructT Tryz.prog 111 [(0, 1), (1, 1), (2, 1), (3, 1)] := ⟨_, Tryz.underlying111, fun W => by simp [go_sem]⟩
instance : StructT Tryz.prog 113 [(0, 1), (1, 1), (2, 1), (3, 1), (4, 1), (5, 1), (6, 4), (10, 1), (11, 1), (12, 1)] := ⟨_, Tryz.underlying113, fun W => by simp [go_sem]⟩
instance : StructT Tryz.prog 130 [(0, 1), (1, 1), (2, 1)] := ⟨_, Tryz.underlying130, fun W => by simp [go_sem]⟩
instance : FieldT Tryz.prog 130 0 0 1 false := ⟨fun c W => by simp [Instr.field, part, asAgg, go_sem] <;> rfl⟩
instance : FieldT Tryz.prog 130 1 1 1 false := ⟨fun c W => by simp [Instr.field, part, asAgg, go_sem] <;> rfl⟩
instance : FieldT Tryz.prog 130 2 2 1 false := ⟨fun c W => by simp [Instr.field, part, asAgg, go_sem] <;> rfl⟩
instance : StructT Tryz.prog 132 [(0, 2), (2, 2)] := ⟨_, Tryz.underlying132, fun W => by simp [go_sem]⟩
instance : StructT Tryz.prog 135 [(0, 1), (1, 2), (3, 1)] := ⟨_, Tryz.underlying135, fun W => by simp [go_sem]⟩
instance : StructT Tryz.prog 137 [(0, 1), (1, 1)] := ⟨_, Tryz.underlying137, fun W => by simp [go_sem]⟩
instance : StructT Tryz.prog 145 [(0, 1), (1, 1)] := ⟨_, Tryz.underlying145, fun W => by simp [go_sem]⟩
instance : StructT Tryz.prog 152 [(0, 9), (9, 1), (10, 1), (11, 1), (12, 1)] := ⟨_, Tryz.underlying152, fun W => by simp [go_sem]⟩
instance : ArrT Tryz.prog 153 2 1 := ⟨_, Tryz.underlying153, fun W => by simp [go_sem]⟩
instance : ArrA Tryz.prog 153 2 1 := ⟨_, Tryz.underlying153, fun W => by simp [go_sem]⟩
instance : IdxT Tryz.prog 153 2 := ⟨_, Tryz.underlying153, fun W => by simp [go_sem], fun W => by simp [go_sem]⟩
instance : StructT Tryz.prog 164 [(0, 1), (1, 1), (2, 1), (3, 1), (4, 1), (5, 1), (6, 1), (7, 1), (8, 1)] := ⟨_, Tryz.underlying164, fun W => by simp [go_sem]⟩
instance : FieldT Tryz.prog 164 0 0 1 false := ⟨fun c W => by simp [Instr.field, part, asAgg, go_sem] <;> rfl⟩
instance : FieldT Tryz.prog 164 1 1 1 false := ⟨fun c W => by simp [Instr.field, part, asAgg, go_sem] <;> rfl⟩
instance : FieldT Tryz.prog 164 2 2 1 false := ⟨fun c W => by simp [Instr.field, part, asAgg, go_sem] <;> rfl⟩
instance : FieldT Tryz.prog 164 3 3 1 false := ⟨fun c W => by simp [Instr.field, part, asAgg, go_sem] <;> rfl⟩
instance : FieldT Tryz.prog 164 4 4 1 false := ⟨fun c W => by simp [Instr.field, part, asAgg, go_sem] <;> rfl⟩
instance : FieldT Tryz.prog 164 5 5 1 false := ⟨fun c W => by simp [Instr.field, part, asAgg, go_sem] <;> rfl⟩
instance : FieldT Tryz.prog 164 6 6 1 false := ⟨fun c W => by simp [Instr.field, part, asAgg, go_sem] <;> rfl⟩
instance : FieldT Tryz.prog 164 7 7 1 false := ⟨fun c W => by simp [Instr.field, part, asAgg, go_sem] <;> rfl⟩
instance : FieldT Tryz.prog 164 8 8 1 false := ⟨fun c W => by simp [Instr.field, part, asAgg, go_sem] <;> rfl⟩
instance : StructT Tryz.prog 180 [(0, 10), (10, 1), (11, 1), (12, 1), (13, 1)] := ⟨_, Tryz.underlying180, fun W => by simp [go_sem]⟩
instance : StructT Tryz.prog 186 [(0, 1), (1, 1), (2, 1), (3, 1), (4, 1)] := ⟨_, Tryz.underlying186, fun W => by simp [go_sem]⟩
instance : ArrT Tryz.prog 187 40 5 := ⟨_, Tryz.underlying187, fun W => by simp [go_sem]⟩
instance : ArrA Tryz.prog 187 40 5 := ⟨_, Tryz.underlying187, fun W => by simp [go_sem]⟩
instance : ArrT Tryz.prog 188 40 1 := ⟨_, Tryz.underlying188, fun W => by simp [go_sem]⟩
instance : ArrA Tryz.prog 188 40 1 := ⟨_, Tryz.underlying188, fun W => by simp [go_sem]⟩
instance : IdxT Tryz.prog 188 40 := ⟨_, Tryz.underlying188, fun W => by simp [go_sem], fun W => by simp [go_sem]⟩
instance : ArrT Tryz.prog 189 24 1 := ⟨_, Tryz.underlying189, fun W => by simp [go_sem]⟩
instance : ArrA Tryz.prog 189 24 1 := ⟨_, Tryz.underlying189, fun W => by simp [go_sem]⟩
instance : IdxT Tryz.prog 189 24 := ⟨_, Tryz.underlying189, fun W => by simp [go_sem], fun W => by simp [go_sem]⟩
instance : StructT Tryz.prog 191 [(0, 1), (1, 200), (201, 40), (241, 24)] := ⟨_, Tryz.underlying191, fun W => by simp [go_sem]⟩
instance : StructT Tryz.prog 216 [(0, 1), (1, 1), (2, 1)] := ⟨_, Tryz.underlying216, fun W => by simp [go_sem]⟩
instance : StructT Tryz.prog 219 [(0, 1), (1, 1)] := ⟨_, Tryz.underlying219, fun W => by simp [go_sem]⟩
instance : StructT Tryz.prog 237 [(0, 1), (1, 1), (2, 1), (3, 1), (4, 1)] := ⟨_, Tryz.underlying237, fun W => by simp [go_sem]⟩
instance : StructT Tryz.prog 240 [(0, 1), (1, 1)] := ⟨_, Tryz.underlying240, fun W => by simp [go_sem]⟩
instance : StructT Tryz.prog 257 [(0, 1), (1, 1), (2, 1), (3, 1)] := ⟨_, Tryz.underlying257, fun W => by simp [go_sem]⟩
instance : ArrT Tryz.prog 277 4 1 := ⟨_, Tryz.underlying277, fun W => by simp [go_sem]⟩
instance : ArrA Tryz.prog 277 4 1 := ⟨_, Tryz.underlying277, fun W => by simp [go_sem]⟩
instance : IdxT Tryz.prog 277 4 := ⟨_, Tryz.underlying277, fun W => by simp [go_sem], fun W => by simp [go_sem]⟩
instance : ArrT Tryz.prog 278 3 1 := ⟨_, Tryz.underlying278, fun W => by simp [go_sem]⟩
instance : ArrA Tryz.prog 278 3 1 := ⟨_, Tryz.underlying278, fun W => by simp [go_sem]⟩
instance : IdxT Tryz.prog 278 3 := ⟨_, Tryz.underlying278, fun W => by simp [go_sem], fun W => by simp [go_sem]⟩
instance : ArrT Tryz.prog 306 0 1 := ⟨_, Tryz.underlying306, fun W => by simp [go_sem]⟩
instance : ArrA Tryz.prog 306 0 1 := ⟨_, Tryz.underlying306, fun W => by simp [go_sem]⟩
instance : StructT Tryz.prog 319 [(0, 1), (1, 1), (2, 1), (3, 1)] := ⟨_, Tryz.underlying319, fun W => by simp [go_sem]⟩
instance : StructT Tryz.prog 322 [(0, 1), (1, 1)] := ⟨_, Tryz.underlying322, fun W => by simp [go_sem]⟩
instance : FnT Tryz.prog 3 := ⟨Tryz.call3⟩
instance : FnT Tryz.prog 4 := ⟨Tryz.call4⟩
instance : FnT Tryz.prog 5 := ⟨Tryz.call5⟩
instance : FnT Tryz.prog 6 := ⟨Tryz.call6⟩
instance : FnT Tryz.prog 7 := ⟨Tryz.call7⟩
instance : FnT Tryz.prog 8 := ⟨Tryz.call8⟩
instance : FnT Tryz.prog 9 := ⟨Tryz.call9⟩
instance : FnT Tryz.prog 10 := ⟨Tryz.call10⟩
instance : FnT Tryz.prog 11 := ⟨Tryz.call11⟩
instance : FnT Tryz.prog 12 := ⟨Tryz.call12⟩
instance : FnT Tryz.prog 13 := ⟨Tryz.call13⟩
instance : FnT Tryz.prog 14 := ⟨Tryz.call14⟩
instance : FnT Tryz.prog 15 := ⟨Tryz.call15⟩
instance : FnT Tryz.prog 16 := ⟨Tryz.call16⟩
instance : FnT Tryz.prog 17 := ⟨Tryz.call17⟩
instance : FnT Tryz.prog 18 := ⟨Tryz.call18⟩
instance : FnT Tryz.prog 19 := ⟨Tryz.call19⟩
instance : FnT Tryz.prog 20 := ⟨Tryz.call20⟩
instance : FnT Tryz.prog 21 := ⟨Tryz.call21⟩
instance : FnT Tryz.prog 22 := ⟨Tryz.call22⟩
instance : FnT Tryz.prog 23 := ⟨Tryz.call23⟩
instance : FnT Tryz.prog 24 := ⟨Tryz.call24⟩
instance : FnT Tryz.prog 25 := ⟨Tryz.call25⟩
instance : FnT Tryz.prog 26 := ⟨Tryz.call26⟩
instance : FnT Tryz.prog 27 := ⟨Tryz.call27⟩
instance : FnT Tryz.prog 28 := ⟨Tryz.call28⟩
instance : FnT Tryz.prog 29 := ⟨Tryz.call29⟩
instance : FnT Tryz.prog 30 := ⟨Tryz.call30⟩
instance : FnT Tryz.prog 31 := ⟨Tryz.call31⟩
instance : FnT Tryz.prog 32 := ⟨Tryz.call32⟩
instance : FnT Tryz.prog 33 := ⟨Tryz.call33⟩
instance : FnT Tryz.prog 34 := ⟨Tryz.call34⟩
instance : FnT Tryz.prog 35 := ⟨Tryz.call35⟩
instance : FnT Tryz.prog 36 := ⟨Tryz.call36⟩
instance : FnT Tryz.prog 37 := ⟨Tryz.call37⟩
instance : FnT Tryz.prog 38 := ⟨Tryz.call38⟩
instance : FnT Tryz.prog 39 := ⟨Tryz.call39⟩
instance : FnT Tryz.prog 40 := ⟨Tryz.call40⟩
instance : FnT Tryz.prog 41 := ⟨Tryz.call41⟩
instance : FnT Tryz.prog 42 := ⟨Tryz.call42⟩
instance : FnT Tryz.prog 43 := ⟨Tryz.call43⟩
instance : FnT Tryz.prog 44 := ⟨Tryz.call44⟩
instance : FnT Tryz.prog 45 := ⟨Tryz.call45⟩
instance : FnT Tryz.prog 46 := ⟨Tryz.call46⟩
instance : FnT Tryz.prog 47 := ⟨Tryz.call47⟩
instance : FnT Tryz.prog 48 := ⟨Tryz.call48⟩
instance : FnT Tryz.prog 49 := ⟨Tryz.call49⟩
instance : FnT Tryz.prog 50 := ⟨Tryz.call50⟩
instance : FnT Tryz.prog 51 := ⟨Tryz.call51⟩
instance : FnT Tryz.prog 52 := ⟨Tryz.call52⟩
instance : FnT Tryz.prog 53 := ⟨Tryz.call53⟩
instance : FnT Tryz.prog 54 := ⟨Tryz.call54⟩
instance : FnT Tryz.prog 55 := ⟨Tryz.call55⟩
instance : FnT Tryz.prog 56 := ⟨Tryz.call56⟩
instance : FnT Tryz.prog 57 := ⟨Tryz.call57⟩
instance : FnT Tryz.prog 58 := ⟨Tryz.call58⟩
instance : FnT Tryz.prog 59 := ⟨Tryz.call59⟩
instance : FnT Tryz.prog 60 := ⟨Tryz.call60⟩
instance : FnT Tryz.prog 61 := ⟨Tryz.call61⟩
instance : FnT Tryz.prog 62 := ⟨Tryz.call62⟩
instance : FnT Tryz.prog 63 := ⟨Tryz.call63⟩
instance : FnT Tryz.prog 64 := ⟨Tryz.call64⟩
instance : FnT Tryz.prog 65 := ⟨Tryz.call65⟩
instance : FnT Tryz.prog 66 := ⟨Tryz.call66⟩
instance : FnT Tryz.prog 67 := ⟨Tryz.call67⟩
instance : FnT Tryz.prog 68 := ⟨Tryz.call68⟩
instance : FnT Tryz.prog 69 := ⟨Tryz.call69⟩
instance : FnT Tryz.prog 70 := ⟨Tryz.call70⟩
instance : FnT Tryz.prog 71 := ⟨Tryz.call71⟩
instance : FnT Tryz.prog 72 := ⟨Tryz.call72⟩
instance : FnT Tryz.prog 73 := ⟨Tryz.call73⟩
instance : FnT Tryz.prog 74 := ⟨Tryz.call74⟩
instance : FnT Tryz.prog 75 := ⟨Tryz.call75⟩
instance : FnT Tryz.prog 76 := ⟨Tryz.call76⟩
instance : FnT Tryz.prog 77 := ⟨Tryz.call77⟩
instance : FnT Tryz.prog 78 := ⟨Tryz.call78⟩
instance : FnT Tryz.prog 79 := ⟨Tryz.call79⟩
instance : FnT Tryz.prog 80 := ⟨Tryz.call80⟩
instance : FnT Tryz.prog 81 := ⟨Tryz.call81⟩
instance : FnT Tryz.prog 82 := ⟨Tryz.call82⟩
instance : FnT Tryz.prog 83 := ⟨Tryz.call83⟩
instance : FnT Tryz.prog 84 := ⟨Tryz.call84⟩
instance : FnT Tryz.prog 85 := ⟨Tryz.call85⟩
instance : FnT Tryz.prog 86 := ⟨Tryz.call86⟩
instance : FnT Tryz.prog 87 := ⟨Tryz.call87⟩
instance : FnT Tryz.prog 88 := ⟨Tryz.call88⟩
instance : FnT Tryz.prog 89 := ⟨Tryz.call89⟩
instance : FnT Tryz.prog 90 := ⟨Tryz.call90⟩
instance : FnT Tryz.prog 91 := ⟨Tryz.call91⟩
instance : FnT Tryz.prog 92 := ⟨Tryz.call92⟩
instance : FnT Tryz.prog 93 := ⟨Tryz.call93⟩
instance : FnT Tryz.prog 94 := ⟨Tryz.call94⟩
instance : FnT Tryz.prog 95 := ⟨Tryz.call95⟩
instance : FnT Tryz.prog 96 := ⟨Tryz.call96⟩
instance : FnT Tryz.prog 97 := ⟨Tryz.call97⟩
instance : FnT Tryz.prog 98 := ⟨Tryz.call98⟩
instance : FnT Tryz.prog 99 := ⟨Tryz.call99⟩
instance : FnT Tryz.prog 100 := ⟨Tryz.call100⟩
instance : FnT Tryz.prog 101 := ⟨Tryz.call101⟩
instance : FnT Tryz.prog 102 := ⟨Tryz.call102⟩
instance : FnT Tryz.prog 103 := ⟨Tryz.call103⟩
instance : FnT Tryz.prog 104 := ⟨Tryz.call104⟩
instance : FnT Tryz.prog 105 := ⟨Tryz.call105⟩
instance : FnT Tryz.prog 106 := ⟨Tryz.call106⟩
instance : FnT Tryz.prog 107 := ⟨Tryz.call107⟩
instance : FnT Tryz.prog 108 := ⟨Tryz.call108⟩
instance : FnT Tryz.prog 109 := ⟨Tryz.call109⟩
instance : FnT Tryz.prog 110 := ⟨Tryz.call110⟩
instance : FnT Tryz.prog 111 := ⟨Tryz.call111⟩
instance : FnT Tryz.prog 112 := ⟨Tryz.call112⟩
instance : FnT Tryz.prog 113 := ⟨Tryz.call113⟩
instance : FnT Tryz.prog 114 := ⟨Tryz.call114⟩
instance : FnT Tryz.prog 115 := ⟨Tryz.call115⟩
instance : FnT Tryz.prog 116 := ⟨Tryz.call116⟩
instance : FnT Tryz.prog 117 := ⟨Tryz.call117⟩
instance : FnT Tryz.prog 118 := ⟨Tryz.call118⟩
instance : FnT Tryz.prog 119 := ⟨Tryz.call119⟩
instance : FnT Tryz.prog 120 := ⟨Tryz.call120⟩
instance : FnT Tryz.prog 121 := ⟨Tryz.call121⟩
instance : FnT Tryz.prog 122 := ⟨Tryz.call122⟩
instance : FnT Tryz.prog 123 := ⟨Tryz.call123⟩
instance : FnT Tryz.prog 124 := ⟨Tryz.call124⟩
instance : FnT Tryz.prog 125 := ⟨Tryz.call125⟩
instance : FnT Tryz.prog 126 := ⟨Tryz.call126⟩
instance : FnT Tryz.prog 127 := ⟨Tryz.call127⟩
instance : FnT Tryz.prog 128 := ⟨Tryz.call128⟩
instance : FnT Tryz.prog 129 := ⟨Tryz.call129⟩
instance : FnT Tryz.prog 130 := ⟨Tryz.call130⟩
instance : FnT Tryz.prog 131 := ⟨Tryz.call131⟩
instance : FnT Tryz.prog 132 := ⟨Tryz.call132⟩
instance : FnT Tryz.prog 133 := ⟨Tryz.call133⟩
instance : FnT Tryz.prog 134 := ⟨Tryz.call134⟩
instance : FnT Tryz.prog 135 := ⟨Tryz.call135⟩
instance : FnT Tryz.prog 136 := ⟨Tryz.call136⟩
instance : FnT Tryz.prog 137 := ⟨Tryz.call137⟩
instance : FnT Tryz.prog 138 := ⟨Tryz.call138⟩
instance : FnT Tryz.prog 139 := ⟨Tryz.call139⟩
instance : FnT Tryz.prog 140 := ⟨Tryz.call140⟩
instance : FnT Tryz.prog 141 := ⟨Tryz.call141⟩
instance : FnT Tryz.prog 142 := ⟨Tryz.call142⟩
instance : FnT Tryz.prog 143 := ⟨Tryz.call143⟩
instance : FnT Tryz.prog 144 := ⟨Tryz.call144⟩
instance : FnT Tryz.prog 145 := ⟨Tryz.call145⟩
instance : FnT Tryz.prog 146 := ⟨Tryz.call146⟩
instance : FnT Tryz.prog 147 := ⟨Tryz.call147⟩
instance : FnT Tryz.prog 148 := ⟨Tryz.call148⟩
instance : FnT Tryz.prog 149 := ⟨Tryz.call149⟩
instance : FnT Tryz.prog 150 := ⟨Tryz.call150⟩
instance : FnT Tryz.prog 151 := ⟨Tryz.call151⟩
instance : FnT Tryz.prog 152 := ⟨Tryz.call152⟩
instance : FnT Tryz.prog 153 := ⟨Tryz.call153⟩
instance : FnT Tryz.prog 154 := ⟨Tryz.call154⟩
instance : FnT Tryz.prog 155 := ⟨Tryz.call155⟩
instance : FnT Tryz.prog 156 := ⟨Tryz.call156⟩
instance : FnT Tryz.prog 157 := ⟨Tryz.call157⟩
instance : FnT Tryz.prog 158 := ⟨Tryz.call158⟩
instance : FnT Tryz.prog 159 := ⟨Tryz.call159⟩
instance : FnT Tryz.prog 160 := ⟨Tryz.call160⟩
instance : FnT Tryz.prog 161 := ⟨Tryz.call161⟩
instance : FnT Tryz.prog 162 := ⟨Tryz.call162⟩
instance : FnT Tryz.prog 163 := ⟨Tryz.call163⟩
instance : FnT Tryz.prog 164 := ⟨Tryz.call164⟩
instance : FnT Tryz.prog 165 := ⟨Tryz.call165⟩
instance : FnT Tryz.prog 166 := ⟨Tryz.call166⟩
instance : FnT Tryz.prog 167 := ⟨Tryz.call167⟩
instance : FnT Tryz.prog 168 := ⟨Tryz.call168⟩
instance : FnT Tryz.prog 169 := ⟨Tryz.call169⟩
instance : FnT Tryz.prog 170 := ⟨Tryz.call170⟩
instance : FnT Tryz.prog 171 := ⟨Tryz.call171⟩
instance : FnT Tryz.prog 172 := ⟨Tryz.call172⟩
instance : FnT Tryz.prog 173 := ⟨Tryz.call173⟩
instance : FnT Tryz.prog 174 := ⟨Tryz.call174⟩
instance : FnT Tryz.prog 175 := ⟨Tryz.call175⟩
instance : FnT Tryz.prog 176 := ⟨Tryz.call176⟩
instance : FnT Tryz.prog 177 := ⟨Tryz.call177⟩
instance : FnT Tryz.prog 178 := ⟨Tryz.call178⟩
instance : FnT Tryz.prog 179 := ⟨Tryz.call179⟩
instance : FnT Tryz.prog 180 := ⟨Tryz.call180⟩
instance : FnT Tryz.prog 181 := ⟨Tryz.call181⟩
instance : FnT Tryz.prog 182 := ⟨Tryz.call182⟩
instance : FnT Tryz.prog 183 := ⟨Tryz.call183⟩
instance : FnT Tryz.prog 184 := ⟨Tryz.call184⟩
instance : FnT Tryz.prog 185 := ⟨Tryz.call185⟩
instance : FnT Tryz.prog 186 := ⟨Tryz.call186⟩
instance : FnT Tryz.prog 187 := ⟨Tryz.call187⟩
instance : FnT Tryz.prog 188 := ⟨Tryz.call188⟩
instance : FnT Tryz.prog 189 := ⟨Tryz.call189⟩
instance : FnT Tryz.prog 190 := ⟨Tryz.call190⟩
instance : FnT Tryz.prog 191 := ⟨Tryz.call191⟩
instance : FnT Tryz.prog 192 := ⟨Tryz.call192⟩
instance : FnT Tryz.prog 193 := ⟨Tryz.call193⟩
instance : FnT Tryz.prog 194 := ⟨Tryz.call194⟩
instance : FnT Tryz.prog 195 := ⟨Tryz.call195⟩
instance : FnT Tryz.prog 196 := ⟨Tryz.call196⟩
instance : FnT Tryz.prog 197 := ⟨Tryz.call197⟩
instance : FnT Tryz.prog 198 := ⟨Tryz.call198⟩
instance : FnT Tryz.prog 199 := ⟨Tryz.call199⟩
instance : FnT Tryz.prog 200 := ⟨Tryz.call200⟩
instance : FnT Tryz.prog 201 := ⟨Tryz.call201⟩
instance : FnT Tryz.prog 202 := ⟨Tryz.call202⟩
instance : FnT Tryz.prog 203 := ⟨Tryz.call203⟩
instance : FnT Tryz.prog 204 := ⟨Tryz.call204⟩
instance : FnT Tryz.prog 205 := ⟨Tryz.call205⟩
instance : FnT Tryz.prog 206 := ⟨Tryz.call206⟩
instance : FnT Tryz.prog 207 := ⟨Tryz.call207⟩
instance : FnT Tryz.prog 208 := ⟨Tryz.call208⟩
instance : FnT Tryz.prog 209 := ⟨Tryz.call209⟩
instance : FnT Tryz.prog 210 := ⟨Tryz.call210⟩
instance : FnT Tryz.prog 211 := ⟨Tryz.call211⟩
instance : FnT Tryz.prog 212 := ⟨Tryz.call212⟩
instance : FnT Tryz.prog 213 := ⟨Tryz.call213⟩
instance : FnT Tryz.prog 214 := ⟨Tryz.call214⟩
instance : FnT Tryz.prog 215 := ⟨Tryz.call215⟩
instance : FnT Tryz.prog 216 := ⟨Tryz.call216⟩
instance : FnT Tryz.prog 217 := ⟨Tryz.call217⟩
instance : FnT Tryz.prog 218 := ⟨Tryz.call218⟩
instance : FnT Tryz.prog 219 := ⟨Tryz.call219⟩
instance : FnT Tryz.prog 220 := ⟨Tryz.call220⟩
instance : FnT Tryz.prog 221 := ⟨Tryz.call221⟩
instance : FnT Tryz.prog 222 := ⟨Tryz.call222⟩
end Go.Proofs.YtjckojnlapchoaaGreat
open Go Go.RowKit
namespace Go.Proofs.YtjckojnlapchoaaGreat
open Go.Proofs
theorem str_eq (s t : ByteArray) : (s.toList == t.toList) = decide (s = t) := by rw [← beq_toListBytes, ba_beq]
theorem eqIn_Port : ∀ (x y : Port) (d : Nat) (w : World), (Op.equalIn (d + 2) 71 (.agg ⟨x.cells⟩) (.agg ⟨y.cells⟩)).run Tryz.prog w = .ok (decide (x = y)) w := by
  rintro ⟨a0, a1⟩ ⟨b0, b1⟩ d w
  unfold Port.cells
  rw [run_equalIn_struct w (d + 1) 71 _ _ (by kernel_rfl) (by kernel_rfl)]
  rw [show (Tryz.prog.fieldsOf 71).toList = [{ name := "Elem", type := 3, offset := 0, embedded := false, tag := "", pkgPath := "", byteOffset := 0 : Field }, { name := "End", type := 3, offset := 1, embedded := false, tag := "", pkgPath := "", byteOffset := 8 : Field }] by kernel_rfl]
  by_cases e0 : a0 = b0 <;> by_cases e1 : a1 = b1 <;> simp [Op.eqFields, part, asAgg, go_sem, str_eq, e0, e1]
instance eqPort : EqT Tryz.prog 71 Port.cells := ⟨fun a b w => eqIn_Port a b 9998 w, by kernel_rfl⟩
theorem eqIn_Elem : ∀ (x y : Elem) (d : Nat) (w : World), (Op.equalIn (d + 2) 130 (.agg ⟨x.cells⟩) (.agg ⟨y.cells⟩)).run Tryz.prog w = .ok (decide (x = y)) w := by
  rintro ⟨a0, a1, a2⟩ ⟨b0, b1, b2⟩ d w
  unfold Elem.cells
  rw [run_equalIn_struct w (d + 1) 130 _ _ (by kernel_rfl) (by kernel_rfl)]
  rw [show (Tryz.prog.fieldsOf 130).toList = [{ name := "Name", type := 9, offset := 0, embedded := false, tag := "", pkgPath := "", byteOffset := 0 : Field }, { name := "Kind", type := 3, offset := 1, embedded := false, tag := "", pkgPath := "", byteOffset := 16 : Field }, { name := "Length", type := 3, offset := 2, embedded := false, tag := "", pkgPath := "", byteOffset := 24 : Field }] by kernel_rfl]
  by_cases e0 : a0 = b0 <;> by_cases e1 : a1 = b1 <;> by_cases e2 : a2 = b2 <;> simp [Op.eqFields, part, asAgg, go_sem, str_eq, e0, e1, e2]
instance eqElem : EqT Tryz.prog 130 Elem.cells := ⟨fun a b w => eqIn_Elem a b 9998 w, by kernel_rfl⟩
theorem eqIn_Join : ∀ (x y : Join) (d : Nat) (w : World), (Op.equalIn (d + 3) 132 (.agg ⟨x.cells⟩) (.agg ⟨y.cells⟩)).run Tryz.prog w = .ok (decide (x = y)) w := by
  rintro ⟨⟨a00, a01⟩, ⟨a10, a11⟩⟩ ⟨⟨b00, b01⟩, ⟨b10, b11⟩⟩ d w
  unfold Join.cells
  rw [run_equalIn_struct w (d + 2) 132 _ _ (by kernel_rfl) (by kernel_rfl)]
  rw [show (Tryz.prog.fieldsOf 132).toList = [{ name := "A", type := 71, offset := 0, embedded := false, tag := "", pkgPath := "", byteOffset := 0 : Field }, { name := "B", type := 71, offset := 2, embedded := false, tag := "", pkgPath := "", byteOffset := 16 : Field }] by kernel_rfl]
  have h0 := fun (w : World) => eqIn_Port ⟨a00, a01⟩ ⟨b00, b01⟩ (d + 0) w
  unfold Port.cells at h0
  have h1 := fun (w : World) => eqIn_Port ⟨a10, a11⟩ ⟨b10, b11⟩ (d + 0) w
  unfold Port.cells at h1
  by_cases e0 : a00 = b00 <;> by_cases e1 : a01 = b01 <;> by_cases e2 : a10 = b10 <;> by_cases e3 : a11 = b11 <;> simp [Op.eqFields, part, asAgg, go_sem, str_eq, h0, h1, e0, e1, e2, e3]
instance eqJoin : EqT Tryz.prog 132 Join.cells := ⟨fun a b w => eqIn_Join a b 9997 w, by kernel_rfl⟩
theorem eqIn_Signal : ∀ (x y : Signal) (d : Nat) (w : World), (Op.equalIn (d + 3) 135 (.agg ⟨x.cells⟩) (.agg ⟨y.cells⟩)).run Tryz.prog w = .ok (decide (x = y)) w := by
  rintro ⟨a0, ⟨a10, a11⟩, a2⟩ ⟨b0, ⟨b10, b11⟩, b2⟩ d w
  unfold Signal.cells
  rw [run_equalIn_struct w (d + 2) 135 _ _ (by kernel_rfl) (by kernel_rfl)]
  rw [show (Tryz.prog.fieldsOf 135).toList = [{ name := "Name", type := 9, offset := 0, embedded := false, tag := "", pkgPath := "", byteOffset := 0 : Field }, { name := "At", type := 71, offset := 1, embedded := false, tag := "", pkgPath := "", byteOffset := 16 : Field }, { name := "Auto", type := 4, offset := 3, embedded := false, tag := "", pkgPath := "", byteOffset := 32 : Field }] by kernel_rfl]
  have h1 := fun (w : World) => eqIn_Port ⟨a10, a11⟩ ⟨b10, b11⟩ (d + 0) w
  unfold Port.cells at h1
  by_cases e0 : a0 = b0 <;> by_cases e1 : a10 = b10 <;> by_cases e2 : a11 = b11 <;> by_cases e3 : a2 = b2 <;> simp [Op.eqFields, part, asAgg, go_sem, str_eq, h1, e0, e1, e2, e3]
instance eqSignal : EqT Tryz.prog 135 Signal.cells := ⟨fun a b w => eqIn_Signal a b 9997 w, by kernel_rfl⟩
theorem eqIn_Step : ∀ (x y : Step) (d : Nat) (w : World), (Op.equalIn (d + 2) 216 (.agg ⟨x.cells⟩) (.agg ⟨y.cells⟩)).run Tryz.prog w = .ok (decide (x = y)) w := by
  rintro ⟨a0, a1, a2⟩ ⟨b0, b1, b2⟩ d w
  unfold Step.cells
  rw [run_equalIn_struct w (d + 1) 216 _ _ (by kernel_rfl) (by kernel_rfl)]
  rw [show (Tryz.prog.fieldsOf 216).toList = [{ name := "Elem", type := 3, offset := 0, embedded := false, tag := "", pkgPath := "", byteOffset := 0 : Field }, { name := "In", type := 3, offset := 1, embedded := false, tag := "", pkgPath := "", byteOffset := 8 : Field }, { name := "Out", type := 3, offset := 2, embedded := false, tag := "", pkgPath := "", byteOffset := 16 : Field }] by kernel_rfl]
  by_cases e0 : a0 = b0 <;> by_cases e1 : a1 = b1 <;> by_cases e2 : a2 = b2 <;> simp [Op.eqFields, part, asAgg, go_sem, str_eq, e0, e1, e2]
instance eqStep : EqT Tryz.prog 216 Step.cells := ⟨fun a b w => eqIn_Step a b 9998 w, by kernel_rfl⟩
theorem eqIn_Need : ∀ (x y : Need) (d : Nat) (w : World), (Op.equalIn (d + 2) 219 (.agg ⟨x.cells⟩) (.agg ⟨y.cells⟩)).run Tryz.prog w = .ok (decide (x = y)) w := by
  rintro ⟨a0, a1⟩ ⟨b0, b1⟩ d w
  unfold Need.cells
  rw [run_equalIn_struct w (d + 1) 219 _ _ (by kernel_rfl) (by kernel_rfl)]
  rw [show (Tryz.prog.fieldsOf 219).toList = [{ name := "Elem", type := 3, offset := 0, embedded := false, tag := "", pkgPath := "", byteOffset := 0 : Field }, { name := "Pos", type := 3, offset := 1, embedded := false, tag := "", pkgPath := "", byteOffset := 8 : Field }] by kernel_rfl]
  by_cases e0 : a0 = b0 <;> by_cases e1 : a1 = b1 <;> simp [Op.eqFields, part, asAgg, go_sem, str_eq, e0, e1]
instance eqNeed : EqT Tryz.prog 219 Need.cells := ⟨fun a b w => eqIn_Need a b 9998 w, by kernel_rfl⟩
theorem eqIn_Stock : ∀ (x y : Stock) (d : Nat) (w : World), (Op.equalIn (d + 2) 30 (.agg ⟨x.cells⟩) (.agg ⟨y.cells⟩)).run Tryz.prog w = .ok (decide (x = y)) w := by
  rintro ⟨a0, a1, a2, a3, a4⟩ ⟨b0, b1, b2, b3, b4⟩ d w
  unfold Stock.cells
  rw [run_equalIn_struct w (d + 1) 30 _ _ (by kernel_rfl) (by kernel_rfl)]
  rw [show (Tryz.prog.fieldsOf 30).toList = [{ name := "Name", type := 9, offset := 0, embedded := false, tag := "", pkgPath := "", byteOffset := 0 : Field }, { name := "Len", type := 3, offset := 1, embedded := false, tag := "", pkgPath := "", byteOffset := 16 : Field }, { name := "Top", type := 3, offset := 2, embedded := false, tag := "", pkgPath := "", byteOffset := 24 : Field }, { name := "Acc", type := 3, offset := 3, embedded := false, tag := "", pkgPath := "", byteOffset := 32 : Field }, { name := "Brake", type := 3, offset := 4, embedded := false, tag := "", pkgPath := "", byteOffset := 40 : Field }] by kernel_rfl]
  by_cases e0 : a0 = b0 <;> by_cases e1 : a1 = b1 <;> by_cases e2 : a2 = b2 <;> by_cases e3 : a3 = b3 <;> by_cases e4 : a4 = b4 <;> simp [Op.eqFields, part, asAgg, go_sem, str_eq, e0, e1, e2, e3, e4]
instance eqStock : EqT Tryz.prog 30 Stock.cells := ⟨fun a b w => eqIn_Stock a b 9998 w, by kernel_rfl⟩
theorem eqIn_Way : ∀ (x y : Way) (d : Nat) (w : World), (Op.equalIn (d + 2) 145 (.agg ⟨x.cells⟩) (.agg ⟨y.cells⟩)).run Tryz.prog w = .ok (decide (x = y)) w := by
  rintro ⟨a0, a1⟩ ⟨b0, b1⟩ d w
  unfold Way.cells
  rw [run_equalIn_struct w (d + 1) 145 _ _ (by kernel_rfl) (by kernel_rfl)]
  rw [show (Tryz.prog.fieldsOf 145).toList = [{ name := "Out", type := 3, offset := 0, embedded := false, tag := "", pkgPath := "", byteOffset := 0 : Field }, { name := "Pos", type := 3, offset := 1, embedded := false, tag := "", pkgPath := "", byteOffset := 8 : Field }] by kernel_rfl]
  by_cases e0 : a0 = b0 <;> by_cases e1 : a1 = b1 <;> simp [Op.eqFields, part, asAgg, go_sem, str_eq, e0, e1]
instance eqWay : EqT Tryz.prog 145 Way.cells := ⟨fun a b w => eqIn_Way a b 9998 w, by kernel_rfl⟩
end Go.Proofs.YtjckojnlapchoaaGreat
