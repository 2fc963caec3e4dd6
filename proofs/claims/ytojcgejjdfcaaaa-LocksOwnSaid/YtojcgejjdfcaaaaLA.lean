/- The table of locks as the document has it: plain lists. -/
import Derived.Test.YtojcgejjdfcaaaaSlI
import Derived.Test.YtojcgejjdfcaaaaFs
namespace Go.Proofs.Ytojcgejjdfcaaaa.Locks
open Go Go.Proofs.Ytojcgejjdfcaaaa.Cf
set_option linter.unusedVariables false
set_option linter.unusedSimpArgs false
set_option maxRecDepth 100000
/-- Who holds, who waits, who is dead. -/
structure Md where
  H : List S79
  W : List S79
  D : List Int
def tog (a b : S79) : Bool := (a.Tx == b.Tx) || (!a.Write && !b.Write)
def ltr (a b : S79) : Bool := decide (a.Key < b.Key) || ((a.Key == b.Key) && decide (a.Tx < b.Tx))
def Ord (L : List S79) : Prop := L.Pairwise fun a b => ltr a b = true
def put (L : List S79) (x : S79) : List S79 := L.takeWhile (fun y => ltr y x) ++ [x] ++ L.dropWhile (fun y => ltr y x)
def wo (L : List S79) (tx : Int) : List S79 := L.filter fun y => y.Tx != tx
def may (m : Md) (x : S79) : Bool := (m.H.all fun y => !(y.Key == x.Key) || tog y x) && (m.W.all fun y => !((y.Key == x.Key) && decide (y.Tx < x.Tx)) || tog y x)
def same (x y : S79) : Bool := (y.Tx == x.Tx) && (y.Key == x.Key)
def mrg (H : List S79) (x : S79) : S79 := ⟨x.Tx, x.Key, x.Write || H.any fun y => same x y && y.Write⟩
def grant (m : Md) (x : S79) : Md := ⟨put (m.H.filter fun y => !same x y) (mrg m.H x), wo m.W x.Tx, m.D⟩
def give : List S79 → Md → Md × List S55
  | [], m => (m, [])
  | x :: l, m => if may m x = true then ((give l (grant m x)).1, ⟨x.Tx, x.Key⟩ :: (give l (grant m x)).2) else give l m
def wounded (m : Md) (x : S79) : List Int := (m.H.filter fun y => ((y.Key == x.Key) && decide (y.Tx > x.Tx)) && !tog x y).map (·.Tx)
def wound (m : Md) (o : Int) : Md := ⟨wo m.H o, wo m.W o, m.D ++ [o]⟩
def askE (m : Md) (x : S79) : Int :=
  if x.Tx < 1 then 130 else if x.Key < 0 ∨ x.Key > 8191 then 131 else if m.D.any (· == x.Tx) = true then 132 else if m.W.any (fun y => y.Tx == x.Tx) = true then 133 else 0
def has (m : Md) (x : S79) : Bool := m.H.any fun y => ((y.Key == x.Key) && (y.Tx == x.Tx)) && (y.Write || !x.Write)
/-- The table with a new row that waits. -/
def asked (m : Md) (x : S79) : Md := ⟨((wounded m x).foldl wound m).H, put ((wounded m x).foldl wound m).W x, ((wounded m x).foldl wound m).D⟩
structure Ans where
  ok : Bool
  wo : List Int
  wk : List S55
def ask (m : Md) (x : S79) : Md × Ans × Int :=
  if askE m x ≠ 0 then (m, ⟨false, [], []⟩, askE m x)
  else if has m x = true then (m, ⟨true, [], []⟩, 0)
  else ((give (asked m x).W (asked m x)).1, ⟨(give (asked m x).W (asked m x)).2.any (fun g => g.Tx == x.Tx), wounded m x, (give (asked m x).W (asked m x)).2.filter fun g => g.Tx != x.Tx⟩, 0)
def ended (m : Md) (tx : Int) : Md := ⟨wo m.H tx, wo m.W tx, m.D.filter (· != tx)⟩
def end_ (m : Md) (tx : Int) : Md × List S55 × Int := if tx < 1 then (m, [], 130) else ((give (ended m tx).W (ended m tx)).1, (give (ended m tx).W (ended m tx)).2, 0)
def of (L : List S79) (k : Int) : List S53 := (L.filter fun y => y.Key == k).map fun y => ⟨y.Tx, y.Write⟩
theorem s79_eq {x y : S79} (h1 : x.Tx = y.Tx) (h2 : x.Key = y.Key) (h3 : x.Write = y.Write) : x = y := by cases x; cases y; simp only at h1 h2 h3; subst h1; subst h2; subst h3; rfl
theorem mem_put {L : List S79} {x y : S79} : y ∈ put L x ↔ y = x ∨ y ∈ L := by
  have e : ∀ L : List S79, L.takeWhile (fun y => ltr y x) ++ L.dropWhile (fun y => ltr y x) = L := fun L => List.takeWhile_append_dropWhile
  have h := e L
  unfold put
  rw [List.mem_append, List.mem_append, List.mem_singleton]
  conv => rhs; rw [← h, List.mem_append]
  constructor
  · rintro ((h | h) | h)
    · exact .inr (.inl h)
    · exact .inl h
    · exact .inr (.inr h)
  · rintro (h | h | h)
    · exact .inl (.inr h)
    · exact .inl (.inl h)
    · exact .inr h
theorem put_perm {L : List S79} {x : S79} : (put L x).Perm (x :: L) := by
  have h : L.takeWhile (fun y => ltr y x) ++ L.dropWhile (fun y => ltr y x) = L := List.takeWhile_append_dropWhile
  unfold put
  conv => rhs; rw [← h]
  rw [List.append_assoc]
  exact List.perm_middle
theorem put_len {L : List S79} {x : S79} : (put L x).length = L.length + 1 := by rw [put_perm.length_eq]; rfl
/-- The first place at which a list's rows aren't ahead any more. -/
theorem while_at {p : S79 → Bool} : ∀ {L : List S79} {n : Nat}, (∀ y ∈ L.take n, p y = true) → (∀ y, L[n]? = some y → p y = false) → L.takeWhile p = L.take n ∧ L.dropWhile p = L.drop n
  | [], n, _, _ => by simp
  | x :: L, 0, _, h => by
    have hx := h x rfl
    simp [List.takeWhile, List.dropWhile, hx]
  | x :: L, n + 1, h1, h2 => by
    have hx := h1 x (by simp)
    have ih := while_at (p := p) (L := L) (n := n) (fun y hy => h1 y (by simp [hy])) (fun y hy => h2 y (by simpa using hy))
    simp [List.takeWhile, List.dropWhile, hx, ih.1, ih.2]
end Go.Proofs.Ytojcgejjdfcaaaa.Locks
