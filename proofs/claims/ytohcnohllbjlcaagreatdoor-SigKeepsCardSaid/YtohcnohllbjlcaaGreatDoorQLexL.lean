/-
  Plain: all tokens of a text.
-/
import Derived.Test.YtohcnohllbjlcaaGreatDoorQLexNum
import Derived.Test.YtohcnohllbjlcaaGreatDoorQMem
import Derived.Lib.ItoaNum
set_option linter.unusedSimpArgs false
set_option linter.unusedVariables false
set_option maxHeartbeats 8000000
set_option maxRecDepth 20000
namespace Go.Lamb
open Go Go.RowKit

structure Tok where
  kind : Int
  text : List UInt8
  n : Int
  pos : Int
  deriving DecidableEq
def Tok.cells (t : Tok) : List Value := [.int .i64 t.kind, .string (bs t.text), .int .i64 t.n, .int .i64 t.pos]
theorem Tok.cells_len (t : Tok) : t.cells.length = 4 := rfl
def toksCells (l : List Tok) : List Value := l.flatMap Tok.cells
/-- The slice value v reads as these tokens. -/
def Toks (w : World) (B : Nat) (v : Value) (l : List Tok) : Prop := Sl w B 4 v l.length (toksCells l)

structure LexR where
  toks : List Tok
  err : Int
  pos : Nat
  deriving DecidableEq
def LexR.cons (t : Tok) (r : LexR) : LexR := if r.err = 0 then ⟨t :: r.toks, 0, 0⟩ else ⟨[], r.err, r.pos⟩
/-- What was read, ahead of what is read. -/
def LexR.after (d : List Tok) (r : LexR) : LexR := if r.err = 0 then ⟨d ++ r.toks, 0, 0⟩ else ⟨[], r.err, r.pos⟩
/-- How a token is written. -/
def textL (kind : Int) (text : List UInt8) (n : Int) : List UInt8 :=
  if kind == 1 then text else if kind == 2 then text else if kind == 4 then text
  else if kind == 3 then Lib.itoa (max n 0)
  else if kind == 5 then [40] else if kind == 6 then [41] else if kind == 7 then [46] else if kind == 8 then [92] else []
theorem Toks.open {w : World} {B : Nat} {v : Value} {l : List Tok} (h : Toks w B v l) (hne : l ≠ []) : ∃ b o c, v = .slice (some ⟨b, o, none⟩) l.length c ∧ l.length ≤ c ∧ c ≤ maxLen ∧ b < B := by
  obtain ⟨A, c, rfl, h1, h2⟩ := h.form
  obtain ⟨b, o, rfl, hb, _⟩ := h.pos (List.length_pos_iff.2 hne)
  exact ⟨b, o, c, rfl, h1, h2, hb⟩
/-- Token i's four cells. -/
theorem Toks.cells {w : World} {B b o c : Nat} {l : List Tok} (h : Toks w B (.slice (some ⟨b, o, none⟩) l.length c) l) (i : Nat) (hi : i < l.length) :
    w.cell? ⟨b, o + i * 4, none⟩ = some (.int .i64 l[i].kind) ∧ w.cell? ⟨b, o + i * 4 + 1, none⟩ = some (.string (bs l[i].text)) ∧
    w.cell? ⟨b, o + i * 4 + 2, none⟩ = some (.int .i64 l[i].n) ∧ w.cell? ⟨b, o + i * 4 + 3, none⟩ = some (.int .i64 l[i].pos) := by
  obtain ⟨b', o', hA, _, hc⟩ := h.pos (by omega)
  injection hA with hA
  injection hA with hb ho
  subst hb
  subst ho
  have g := fun j hj => flat_get Tok.cells 4 Tok.cells_len l i j hi hj
  refine ⟨hc (i * 4 + 0) _ (g 0 (by omega)), ?_, ?_, ?_⟩
  · have := hc (i * 4 + 1) _ (g 1 (by omega)); rwa [← Nat.add_assoc] at this
  · have := hc (i * 4 + 2) _ (g 2 (by omega)); rwa [← Nat.add_assoc] at this
  · have := hc (i * 4 + 3) _ (g 3 (by omega)); rwa [← Nat.add_assoc] at this
end Go.Lamb
