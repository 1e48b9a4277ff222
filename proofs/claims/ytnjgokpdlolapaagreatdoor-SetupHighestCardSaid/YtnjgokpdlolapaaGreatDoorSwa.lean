/- What a stretch of the code computes over plain data: shapes, values, the store and single operations; no conditions. -/
import Derived.Calls
import Derived.Orders
import Derived.Laws.Sem
import Derived.Laws.World
import Derived.Laws.Cells
import Derived.KernelRfl
import Derived.DeepKeys
import Derived.Laws.CopyRow
import Derived.Laws.MakeOwn
import Derived.Laws.OwnMore
import Derived.Laws.Slices
import Derived.Laws.Concat
namespace Go.Sw
inductive T where
 | bool | int (k : IntKind) | str | con (n : Nat) | sl (t : T) | st (fs : T) | one (t : T) | cons (t ts : T)
 deriving DecidableEq
@[reducible] def T.D : T → Type
 | .bool => Bool
 | .int _ => Int
 | .str => ByteArray
 | .con _ => Unit
 | .sl t => List t.D
 | .st fs => fs.D
 | .one t => t.D
 | .cons t ts => t.D × ts.D
def T.dflt : (t : T) → t.D
 | .bool => false
 | .int _ => (0 : Int)
 | .str => ByteArray.empty
 | .con _ => ()
 | .sl _ => []
 | .st fs => fs.dflt
 | .one t => t.dflt
 | .cons t ts => (t.dflt, ts.dflt)
def T.size : T → Nat
 | .bool | .int _ | .str | .con _ | .sl _ => 1
 | .st fs => fs.size
 | .one t => t.size
 | .cons t ts => t.size + ts.size
def T.isAgg : T → Bool
 | .st _ => true
 | _ => false
def T.cast {a : T} (b : T) (x : a.D) : Option b.D := if h : a = b then some (h ▸ x) else none
theorem T.cast_some {a b : T} {x : a.D} {y : b.D} (h : T.cast b x = some y) : ∃ e : a = b, e ▸ x = y := by
 unfold T.cast at h
 split at h
 ·rename_i e; exact ⟨e, Option.some.inj h⟩
 ·cases h
def one (c : Value) : Prop := match c with | .agg _ | .tuple _ => False | _ => True
def At (w : World) (b o : Nat) (cs : List Value) : Prop := ∀ j v, cs[j]? = some v → w.cell? ⟨b, o + j, none⟩ = some v
theorem At.nil (w : World) (b o : Nat) : At w b o [] := fun j v h => by simp at h
theorem At.append {w : World} {b o : Nat} {c1 c2 : List Value} (h1 : At w b o c1) (h2 : At w b (o + c1.length) c2) : At w b o (c1 ++ c2) := by
 intro j v h
 rw [List.getElem?_append] at h
 split at h
 ·exact h1 j v h
 ·rename_i hj
  have := h2 _ v h
  rw [show o + c1.length + (j - c1.length) = o + j from by omega] at this
  exact this
theorem At.left {w : World} {b o : Nat} {c1 c2 : List Value} (h : At w b o (c1 ++ c2)) : At w b o c1 := by
 intro j v hj
 have hlt : j < c1.length := (List.getElem?_eq_some_iff.1 hj).1
 exact h j v (by rw [List.getElem?_append_left hlt]; exact hj)
theorem At.right {w : World} {b o : Nat} {c1 c2 : List Value} (h : At w b o (c1 ++ c2)) : At w b (o + c1.length) c2 := by
 intro j v hj
 have := h (c1.length + j) v (by rw [List.getElem?_append_right (by omega)]; simpa using hj)
 rw [show o + c1.length + j = o + (c1.length + j) from by omega]
 exact this
def repL {α : Type} (R : α → List Value → Prop) : List α → List Value → Prop
 | [], cs => cs = []
 | x :: xs, cs => ∃ c1 c2, cs = c1 ++ c2 ∧ R x c1 ∧ repL R xs c2
theorem repL_mono {α : Type} {R R' : α → List Value → Prop} (h : ∀ x cs, R x cs → R' x cs) : ∀ {l : List α} {cs : List Value}, repL R l cs → repL R' l cs := by
 intro l
 induction l with
 | nil => intro cs hr; exact hr
 | cons x xs ih =>
   intro cs hr
   obtain ⟨c1, c2, rfl, h1, h2⟩ := hr
   exact ⟨c1, c2, rfl, h _ _ h1, ih h2⟩
theorem repL_length {α : Type} {R : α → List Value → Prop} {s : Nat} (h : ∀ x cs, R x cs → cs.length = s) : ∀ {l : List α} {cs : List Value}, repL R l cs → cs.length = l.length * s := by
 intro l
 induction l with
 | nil => intro cs hr; rw [repL] at hr; subst hr; simp
 | cons x xs ih =>
   intro cs hr
   obtain ⟨c1, c2, rfl, h1, h2⟩ := hr
   rw [List.length_append, h _ _ h1, ih h2, List.length_cons, Nat.add_mul]; omega
theorem repL_append {α : Type} {R : α → List Value → Prop} : ∀ {l m : List α} {cs ds : List Value}, repL R l cs → repL R m ds → repL R (l ++ m) (cs ++ ds) := by
 intro l
 induction l with
 | nil => intro m cs ds h1 h2; rw [repL] at h1; subst h1; exact h2
 | cons x xs ih =>
   intro m cs ds h1 h2
   obtain ⟨c1, c2, rfl, h3, h4⟩ := h1
   exact ⟨c1, c2 ++ ds, by simp, h3, ih h4 h2⟩
theorem repL_split {α : Type} {R : α → List Value → Prop} : ∀ {l m : List α} {cs : List Value}, repL R (l ++ m) cs → ∃ c1 c2, cs = c1 ++ c2 ∧ repL R l c1 ∧ repL R m c2 := by
 intro l
 induction l with
 | nil => intro m cs h; exact ⟨[], cs, rfl, rfl, h⟩
 | cons x xs ih =>
   intro m cs h
   obtain ⟨c1, c2, rfl, h1, h2⟩ := h
   obtain ⟨c3, c4, rfl, h3, h4⟩ := ih h2
   exact ⟨c1 ++ c3, c4, by simp, ⟨c1, c3, rfl, h1, h3⟩, h4⟩
theorem repL_at {α : Type} {R : α → List Value → Prop} {l : List α} {cs : List Value} (h : repL R l cs) {i : Nat} (hi : i < l.length) :
 ∃ c1 c2 c3, cs = c1 ++ c2 ++ c3 ∧ repL R (l.take i) c1 ∧ R l[i] c2 ∧ repL R (l.drop (i + 1)) c3 := by
 have e : l = l.take i ++ (l[i] :: l.drop (i + 1)) := by simp
 rw [e] at h
 obtain ⟨c1, c2, rfl, h1, h2⟩ := repL_split h
 obtain ⟨c3, c4, rfl, h3, h4⟩ := h2
 exact ⟨c1, c3, c4, by simp, h1, h3, h4⟩
def kVal : Nat → Value
 | 0 => .pointer none
 | _ => .nilIface
def rep (I : Nat → Prop) (w : World) : (t : T) → t.D → List Value → Prop
 | .bool, b, cs => cs = [.bool b]
 | .int k, n, cs => cs = [.int k n] ∧ k.min ≤ n ∧ n ≤ k.max
 | .str, s, cs => cs = [.string s] ∧ (s.size : Int) ≤ 9223372036854775807
 | .con n, _, cs => cs = [kVal n]
 | .sl t, l, cs => ∃ base cap, cs = [.slice base (List.length (α := t.D) l) cap] ∧ List.length (α := t.D) l ≤ cap ∧ (cap : Int) ≤ 9223372036854775807 ∧
    (l ≠ [] → ∃ b o es, base = some ⟨b, o, none⟩ ∧ I b ∧ At w b o es ∧ repL (rep I w t) l es)
 | .st fs, x, cs => rep I w fs x cs
 | .one t, x, cs => rep I w t x cs
 | .cons t ts, x, cs => ∃ c1 c2, cs = c1 ++ c2 ∧ rep I w t x.1 c1 ∧ rep I w ts x.2 c2
theorem rep_length {I : Nat → Prop} {w : World} : ∀ {t : T} {x : t.D} {cs : List Value}, rep I w t x cs → cs.length = t.size := by
 intro t
 induction t with
 | bool => intro x cs h; rw [rep] at h; subst h; rfl
 | int k => intro x cs h; rw [rep] at h; rw [h.1]; rfl
 | str => intro x cs h; rw [rep] at h; rw [h.1]; rfl
 | con n => intro x cs h; rw [rep] at h; rw [h]; rfl
 | sl t => intro x cs h; rw [rep] at h; obtain ⟨_, _, h, _⟩ := h; subst h; rfl
 | st fs ih => intro x cs h; rw [rep] at h; exact ih h
 | one t ih => intro x cs h; rw [rep] at h; exact ih h
 | cons t ts ih1 ih2 => 
   intro x cs h
   rw [rep] at h
   obtain ⟨c1, c2, rfl, h1, h2⟩ := h
   simp [T.size, ih1 h1, ih2 h2]
theorem rep_one {I : Nat → Prop} {w : World} : ∀ {t : T} {x : t.D} {cs : List Value}, rep I w t x cs → ∀ c ∈ cs, one c := by
 intro t
 induction t with
 | bool => intro x cs h; rw [rep] at h; subst h; simp [one]
 | int k => intro x cs h; rw [rep] at h; rw [h.1]; simp [one]
 | str => intro x cs h; rw [rep] at h; rw [h.1]; simp [one]
 | con n => intro x cs h; rw [rep] at h; rw [h]; intro c hc; rw [List.mem_singleton] at hc; subst hc; unfold kVal; split <;> trivial
 | sl t => intro x cs h; rw [rep] at h; obtain ⟨_, _, h, _⟩ := h; subst h; simp [one]
 | st fs ih => intro x cs h; rw [rep] at h; exact ih h
 | one t ih => intro x cs h; rw [rep] at h; exact ih h
 | cons t ts ih1 ih2 => 
   intro x cs h
   rw [rep] at h
   obtain ⟨c1, c2, rfl, h1, h2⟩ := h
   intro c hc
   rcases List.mem_append.1 hc with hc | hc
   ·exact ih1 h1 c hc
   ·exact ih2 h2 c hc
structure Stay (I I' : Nat → Prop) (w w' : World) : Prop where
 imm : ∀ b, I b → I' b
 cell : ∀ b o v, I b → w.cell? ⟨b, o, none⟩ = some v → w'.cell? ⟨b, o, none⟩ = some v
theorem At.stay {I I' : Nat → Prop} {w w' : World} (h : Stay I I' w w') {b o : Nat} {cs : List Value} (hb : I b) (ha : At w b o cs) : At w' b o cs :=
 fun j v hj => h.cell _ _ _ hb (ha j v hj)
theorem rep_stay {I I' : Nat → Prop} {w w' : World} (hs : Stay I I' w w') : ∀ {t : T} {x : t.D} {cs : List Value}, rep I w t x cs → rep I' w' t x cs := by
 intro t
 induction t with
 | bool => intro x cs h; rw [rep] at h ⊢; exact h
 | int k => intro x cs h; rw [rep] at h ⊢; exact h
 | str => intro x cs h; rw [rep] at h ⊢; exact h
 | con n => intro x cs h; rw [rep] at h ⊢; exact h
 | sl t ih => 
   intro x cs h
   rw [rep] at h ⊢
   obtain ⟨base, cap, h1, h2, h3, h4⟩ := h
   refine ⟨base, cap, h1, h2, h3, fun hne => ?_⟩
   obtain ⟨b, o, es, hb, hi, he, hr⟩ := h4 hne
   exact ⟨b, o, es, hb, hs.imm b hi, he.stay hs hi, repL_mono (fun _ _ => ih) hr⟩
 | st fs ih => intro x cs h; rw [rep] at h ⊢; exact ih h
 | one t ih => intro x cs h; rw [rep] at h ⊢; exact ih h
 | cons t ts ih1 ih2 => 
   intro x cs h
   rw [rep] at h ⊢
   obtain ⟨c1, c2, rfl, h1, h2⟩ := h
   exact ⟨c1, c2, rfl, ih1 h1, ih2 h2⟩
inductive V where
 | un
 | d (t : T) (x : t.D)
 | ptr (id off : Nat)
 | pt (t : T) (x : t.D)
 | elt (id : Nat) (t : T) (i off : Nat)
 | vec (id : Nat) (t : T)
 | sub (id : Nat) (t : T) (off len : Nat)
 | nil
 | fn (f : Nat) (fst cap : V)
 | agg (l : V)
 | tup (l : V)
 | vnil
 | vcons (a b : V)
def V.isAgg : V → Bool
 | .d t _ => t.isAgg
 | .agg _ => true
 | _ => false
inductive Loc where
 | dead | nilv | blk (b n : Nat)
def blkSize (w : World) (b : Nat) : Nat := match w.heap[b]? with | some (.cells c _ _) => c.size | _ => 0
def repC (I : Nat → Prop) (ι : Nat → Loc) (w : World) : V → List Value → Prop
 | .un, cs => ∃ c, cs = [c] ∧ one c
 | .d t x, cs => rep I w t x cs
 | .ptr id off, cs => ∃ B n, ι id = .blk B n ∧ cs = [.pointer (some ⟨B, off, none⟩)]
 | .pt t x, cs => ∃ b o es, cs = [.pointer (some ⟨b, o, none⟩)] ∧ I b ∧ At w b o es ∧ rep I w t x es
 | .elt id t i off, cs => ∃ B n, ι id = .blk B n ∧ cs = [.pointer (some ⟨B, i * t.size + off, none⟩)]
 | .vec id t, cs => (ι id = .nilv ∧ cs = [.slice none 0 0]) ∨
    (∃ B n cap, ι id = .blk B n ∧ cs = [.slice (some ⟨B, 0, none⟩) n cap] ∧ n ≤ cap ∧ (cap : Int) ≤ 9223372036854775807 ∧ cap * t.size = blkSize w B)
 | .sub id t off len, cs => ∃ B n base cap, ι id = .blk B n ∧ cs = [.slice base len cap] ∧ (0 < len → base = some ⟨B, off * t.size, none⟩) ∧ len ≤ cap ∧ (cap : Int) ≤ 9223372036854775807 ∧ off + len ≤ n
 | .nil, cs => cs = [.slice none 0 0]
 | .fn f a c, cs => ∃ va vc, cs = [.func (.func f) va vc] ∧ repC I ι w a va.toList ∧ repC I ι w c vc.toList
 | .agg l, cs => repC I ι w l cs
 | .tup _, _ => False
 | .vnil, cs => cs = []
 | .vcons a b, cs => ∃ c1 c2, cs = c1 ++ c2 ∧ repC I ι w a c1 ∧ repC I ι w b c2
def mkVal (agg : Bool) (cs : List Value) : Value := match agg with | true => .agg cs.toArray | false => cs.headD undef
def repT (I : Nat → Prop) (ι : Nat → Loc) (w : World) : V → List Value → Prop
 | .vnil, vs => vs = []
 | .vcons a b, vs => ∃ v vs', vs = v :: vs' ∧ (∃ cs, repC I ι w a cs ∧ v = mkVal a.isAgg cs) ∧ repT I ι w b vs'
 | _, _ => False
def repV (I : Nat → Prop) (ι : Nat → Loc) (w : World) (x : V) (v : Value) : Prop :=
 match x with
 | .un => True
 | .tup l => ∃ vs, v = .tuple vs ∧ repT I ι w l vs.toList
 | x => ∃ cs, repC I ι w x cs ∧ v = mkVal x.isAgg cs
inductive E where
 | box (t : Nat) (c : V)
 | vec (e : Nat) (t : T) (l : List t.D)
def repE (I : Nat → Prop) (ι : Nat → Loc) (w : World) : E → Loc → Prop
 | .box t c, .blk B _ => ∃ arr, w.heap[B]? = some (.cells arr t (0, 0)) ∧ repC I ι w c arr.toList
 | .vec _ _ l, .nilv => l = []
 | .vec e t l, .blk B n => l.length = n ∧ ∃ arr es, w.heap[B]? = some (.cells arr e (0, 0)) ∧ 0 < t.size ∧ At w B 0 es ∧ repL (rep I w t) l es
 | _, _ => False
def Imm (F : Nat → Prop) (ι : Nat → Loc) (w : World) (b : Nat) : Prop := b < w.heap.size ∧ ¬ F b ∧ ∀ id n, ι id ≠ .blk b n
structure Holds (F : Nat → Prop) (n : Nat) (γ : Nat → V) (σ : Nat → Option E) (ι : Nat → Loc) (a : Act) (w : World) : Prop where
 defers : a.defers = []
 size : a.tmps.size = n
 slots : ∀ t, repV (Imm F ι w) ι w (γ t) (a.tmps.getD t undef)
 ents : ∀ id e, σ id = some e → repE (Imm F ι w) ι w e (ι id)
 dead : ∀ id, σ id = none → ι id = .dead
 inj : ∀ id id' B n n', ι id = .blk B n → ι id' = .blk B n' → id = id'
 foreign : ∀ b, F b → b < w.heap.size ∧ ∀ id n, ι id ≠ .blk b n
structure Ext (ι : Nat → Loc) (w : World) (ι' : Nat → Loc) (w' : World) : Prop where
 os : w'.os = w.os
 tape : w'.tape = w.tape
 output : w'.output = w.output
 size : w.heap.size ≤ w'.heap.size
 keep : ∀ b, b < w.heap.size → (∀ id n, ι id ≠ .blk b n) → w'.heap[b]? = w.heap[b]?
 new : ∀ id B n, ι' id = .blk B n → (∃ id0 n0, ι id0 = .blk B n0) ∨ w.heap.size ≤ B
theorem Ext.refl (ι : Nat → Loc) (w : World) : Ext ι w ι w := ⟨rfl, rfl, rfl, Nat.le_refl _, fun _ _ _ => rfl, fun id _ n h => .inl ⟨id, n, h⟩⟩
theorem Ext.trans {ι ι' ι'' : Nat → Loc} {w w' w'' : World} (h : Ext ι w ι' w') (k : Ext ι' w' ι'' w'') : Ext ι w ι'' w'' := by
 refine ⟨k.os.trans h.os, k.tape.trans h.tape, k.output.trans h.output, Nat.le_trans h.size k.size, fun b hb hn => ?_, fun id B n hB => ?_⟩
 ·rw [k.keep b (Nat.lt_of_lt_of_le hb h.size) (fun id n hid => ?_), h.keep b hb hn]
  rcases h.new id b n hid with ⟨id0, n0, h0⟩ | h0
  ·exact hn id0 n0 h0
  ·omega
 ·rcases k.new id B n hB with ⟨id0, n0, h0⟩ | h0
  ·exact h.new id0 B n0 h0
  ·exact .inr (Nat.le_trans h.size h0)
end Go.Sw

namespace Go.Sw
structure Same (p : Nat → Bool) (ι ι' : Nat → Loc) (w w' : World) : Prop where
 loc : ∀ id, p id = false → ι id ≠ .dead → ι' id = ι id
 size : ∀ id B n, p id = false → ι id = .blk B n → blkSize w' B = blkSize w B
def V.kill (p : Nat → Bool) : V → V
 | .un => .un
 | .d t x => .d t x
 | .ptr id off => match p id with | true => .un | false => .ptr id off
 | .pt t x => .pt t x
 | .elt id t i off => match p id with | true => .un | false => .elt id t i off
 | .vec id t => match p id with | true => .un | false => .vec id t
 | .sub id t off len => match p id with | true => .un | false => .sub id t off len
 | .nil => .nil
 | .fn f a c => .fn f (a.kill p) (c.kill p)
 | .agg l => .agg (l.kill p)
 | .tup l => .tup (l.kill p)
 | .vnil => .vnil
 | .vcons a b => .vcons (a.kill p) (b.kill p)
theorem V.kill_isAgg (p : Nat → Bool) (x : V) : (x.kill p).isAgg = x.isAgg := by
 cases x <;> simp only [V.kill] <;> first | rfl | (split <;> rfl)
theorem repC_kill {I I' : Nat → Prop} {ι ι' : Nat → Loc} {w w' : World} {p : Nat → Bool} (hs : Stay I I' w w') (hl : Same p ι ι' w w') :
 ∀ {x : V} {cs : List Value}, repC I ι w x cs → repC I' ι' w' (x.kill p) cs := by
 intro x
 induction x with
 | un => intro cs h; exact h
 | d t x => intro cs h; rw [repC] at h; rw [V.kill, repC]; exact rep_stay hs h
 | ptr id off =>
   intro cs h
   rw [repC] at h
   obtain ⟨B, n, hB, rfl⟩ := h
   rw [V.kill]
   cases hp : p id with
   | true => rw [repC]; exact ⟨_, rfl, trivial⟩
   | false => rw [repC]; exact ⟨B, n, by rw [hl.loc id hp (by rw [hB]; simp)]; exact hB, rfl⟩
 | pt t x =>
   intro cs h
   rw [repC] at h
   obtain ⟨b, o, es, rfl, hI, ha, hr⟩ := h
   rw [V.kill, repC]
   exact ⟨b, o, es, rfl, hs.imm _ hI, ha.stay hs hI, rep_stay hs hr⟩
 | elt id t i off =>
   intro cs h
   rw [repC] at h
   obtain ⟨B, n, hB, rfl⟩ := h
   rw [V.kill]
   cases hp : p id with
   | true => rw [repC]; exact ⟨_, rfl, trivial⟩
   | false => rw [repC]; exact ⟨B, n, by rw [hl.loc id hp (by rw [hB]; simp)]; exact hB, rfl⟩
 | vec id t =>
   intro cs h
   rw [repC] at h
   rw [V.kill]
   cases hp : p id with
   | true =>
     rw [repC]
     rcases h with ⟨_, rfl⟩ | ⟨B, n, cap, _, rfl, _⟩
     ·exact ⟨_, rfl, trivial⟩
     ·exact ⟨_, rfl, trivial⟩
   | false =>
     rw [repC]
     rcases h with ⟨h1, h2⟩ | ⟨B, n, cap, h1, h2, h3, h4, h5⟩
     ·exact .inl ⟨by rw [hl.loc id hp (by rw [h1]; simp)]; exact h1, h2⟩
     ·exact .inr ⟨B, n, cap, by rw [hl.loc id hp (by rw [h1]; simp)]; exact h1, h2, h3, h4, by rw [hl.size id B n hp h1]; exact h5⟩
 | sub id t off len =>
   intro cs h
   rw [repC] at h
   rw [V.kill]
   obtain ⟨B, n, base, cap, h1, rfl, h3⟩ := h
   cases hp : p id with
   | true => rw [repC]; exact ⟨_, rfl, trivial⟩
   | false => rw [repC]; exact ⟨B, n, base, cap, by rw [hl.loc id hp (by rw [h1]; simp)]; exact h1, rfl, h3⟩
 | nil => intro cs h; exact h
 | fn f a c ih1 ih2 =>
   intro cs h
   rw [repC] at h
   obtain ⟨va, vc, rfl, h1, h2⟩ := h
   rw [V.kill, repC]
   exact ⟨va, vc, rfl, ih1 h1, ih2 h2⟩
 | agg l ih => intro cs h; rw [repC] at h; rw [V.kill, repC]; exact ih h
 | tup l ih => intro cs h; rw [repC] at h; exact h.elim
 | vnil => intro cs h; exact h
 | vcons a b ih1 ih2 =>
   intro cs h
   rw [repC] at h
   obtain ⟨c1, c2, rfl, h1, h2⟩ := h
   rw [V.kill, repC]
   exact ⟨c1, c2, rfl, ih1 h1, ih2 h2⟩
theorem repT_kill {I I' : Nat → Prop} {ι ι' : Nat → Loc} {w w' : World} {p : Nat → Bool} (hs : Stay I I' w w') (hl : Same p ι ι' w w') :
 ∀ {x : V} {vs : List Value}, repT I ι w x vs → repT I' ι' w' (x.kill p) vs := by
 intro x
 induction x with
 | vnil => intro vs h; exact h
 | vcons a b ih1 ih2 =>
   intro vs h
   rw [repT] at h
   obtain ⟨v, vs', rfl, ⟨cs, h1, h2⟩, h3⟩ := h
   rw [V.kill, repT]
   exact ⟨v, vs', rfl, ⟨cs, repC_kill hs hl h1, by rw [V.kill_isAgg]; exact h2⟩, ih2 h3⟩
 | _ => intro vs h; simp only [repT] at h
theorem repV_kill {I I' : Nat → Prop} {ι ι' : Nat → Loc} {w w' : World} {p : Nat → Bool} (hs : Stay I I' w w') (hl : Same p ι ι' w w')
 {x : V} {v : Value} (h : repV I ι w x v) : repV I' ι' w' (x.kill p) v := by
 have key : ∀ x : V, (∃ cs, repC I ι w x cs ∧ v = mkVal x.isAgg cs) → (∃ cs, repC I' ι' w' (x.kill p) cs ∧ v = mkVal (x.kill p).isAgg cs) :=
  fun x ⟨cs, h1, h2⟩ => ⟨cs, repC_kill hs hl h1, by rw [V.kill_isAgg]; exact h2⟩
 cases x with
 | un => trivial
 | tup l => obtain ⟨vs, h1, h2⟩ := h; exact ⟨vs, h1, repT_kill hs hl h2⟩
 | ptr id off =>
   have := key _ h
   rw [V.kill] at this ⊢
   cases hp : p id with
   | true => trivial
   | false => rw [hp] at this; exact this
 | elt id t i off =>
   have := key _ h
   rw [V.kill] at this ⊢
   cases hp : p id with
   | true => trivial
   | false => rw [hp] at this; exact this
 | vec id t =>
   have := key _ h
   rw [V.kill] at this ⊢
   cases hp : p id with
   | true => trivial
   | false => rw [hp] at this; exact this
 | sub id t off len =>
   have := key _ h
   rw [V.kill] at this ⊢
   cases hp : p id with
   | true => trivial
   | false => rw [hp] at this; exact this
 | _ => exact key _ h
def none' (_ : Nat) : Bool := false
theorem V.kill_none : ∀ x : V, x.kill none' = x := by
 intro x
 induction x <;> simp_all [V.kill, none']
theorem repC_same {I I' : Nat → Prop} {ι ι' : Nat → Loc} {w w' : World} (hs : Stay I I' w w') (hl : Same none' ι ι' w w')
 {x : V} {cs : List Value} (h : repC I ι w x cs) : repC I' ι' w' x cs := by
 have := repC_kill hs hl h; rwa [V.kill_none] at this
theorem repV_same {I I' : Nat → Prop} {ι ι' : Nat → Loc} {w w' : World} (hs : Stay I I' w w') (hl : Same none' ι ι' w w')
 {x : V} {v : Value} (h : repV I ι w x v) : repV I' ι' w' x v := by
 have := repV_kill hs hl h; rwa [V.kill_none] at this
def V.csize : V → Nat
 | .d t _ => t.size
 | .agg l => l.csize
 | .vnil => 0
 | .vcons a b => a.csize + b.csize
 | _ => 1
theorem repC_length {I : Nat → Prop} {ι : Nat → Loc} {w : World} : ∀ {x : V} {cs : List Value}, repC I ι w x cs → cs.length = x.csize := by
 intro x
 induction x with
 | un => intro cs h; rw [repC] at h; obtain ⟨c, rfl, _⟩ := h; rfl
 | d t x => intro cs h; rw [repC] at h; exact rep_length h
 | ptr id off => intro cs h; rw [repC] at h; obtain ⟨B, n, hB, rfl⟩ := h; rfl
 | pt t x => intro cs h; rw [repC] at h; obtain ⟨b, o, es, rfl, hI, ha, hr⟩ := h; rfl
 | elt id t i off => intro cs h; rw [repC] at h; obtain ⟨B, n, hB, rfl⟩ := h; rfl
 | vec id t => intro cs h; rw [repC] at h; rcases h with ⟨_, rfl⟩ | ⟨B, n, cap, _, rfl, _⟩ <;> rfl
 | sub id t off len => intro cs h; rw [repC] at h; obtain ⟨B, n, base, cap, _, rfl, _⟩ := h; rfl
 | nil => intro cs h; rw [repC] at h; subst h; rfl
 | fn f a c ih1 ih2 => intro cs h; rw [repC] at h; obtain ⟨va, vc, rfl, h1, h2⟩ := h; rfl
 | agg l ih => intro cs h; rw [repC] at h; exact ih h
 | tup l ih => intro cs h; rw [repC] at h; exact h.elim
 | vnil => intro cs h; rw [repC] at h; subst h; rfl
 | vcons a b ih1 ih2 => intro cs h; rw [repC] at h; obtain ⟨c1, c2, rfl, h1, h2⟩ := h; simp [V.csize, ih1 h1, ih2 h2]
theorem repC_one {I : Nat → Prop} {ι : Nat → Loc} {w : World} : ∀ {x : V} {cs : List Value}, repC I ι w x cs → ∀ c ∈ cs, one c := by
 intro x
 induction x with
 | un => intro cs h; rw [repC] at h; obtain ⟨c, rfl, h⟩ := h; simpa using h
 | d t x => intro cs h; rw [repC] at h; exact rep_one h
 | ptr id off => intro cs h; rw [repC] at h; obtain ⟨B, n, hB, rfl⟩ := h; simp [one]
 | pt t x => intro cs h; rw [repC] at h; obtain ⟨b, o, es, rfl, hI, ha, hr⟩ := h; simp [one]
 | elt id t i off => intro cs h; rw [repC] at h; obtain ⟨B, n, hB, rfl⟩ := h; simp [one]
 | vec id t => intro cs h; rw [repC] at h; rcases h with ⟨_, rfl⟩ | ⟨B, n, cap, _, rfl, _⟩ <;> simp [one]
 | sub id t off len => intro cs h; rw [repC] at h; obtain ⟨B, n, base, cap, _, rfl, _⟩ := h; simp [one]
 | nil => intro cs h; rw [repC] at h; subst h; simp [one]
 | fn f a c ih1 ih2 => intro cs h; rw [repC] at h; obtain ⟨va, vc, rfl, h1, h2⟩ := h; simp [one]
 | agg l ih => intro cs h; rw [repC] at h; exact ih h
 | tup l ih => intro cs h; rw [repC] at h; exact h.elim
 | vnil => intro cs h; rw [repC] at h; subst h; simp
 | vcons a b ih1 ih2 =>
   intro cs h; rw [repC] at h; obtain ⟨c1, c2, rfl, h1, h2⟩ := h
   intro c hc
   rcases List.mem_append.1 hc with hc | hc
   ·exact ih1 h1 c hc
   ·exact ih2 h2 c hc
theorem mkVal_cells {I : Nat → Prop} {ι : Nat → Loc} {w : World} {x : V} {cs : List Value} (h : repC I ι w x cs) (hx : x.isAgg = true ∨ x.csize = 1) :
 (mkVal x.isAgg cs).cells = cs.toArray := by
 cases ha : x.isAgg with
 | true => rfl
 | false =>
   have hl := repC_length h
   have hone := repC_one h
   rcases hx with hx | hx
   ·rw [ha] at hx; cases hx
   ·rw [hx] at hl
    match cs, hl with
    | [c], _ =>
      have := hone c (by simp)
      show c.cells = _
      cases c <;> simp_all [one, Value.cells]
def T.rd (want : T) : (t : T) → t.D → Nat → Option want.D
 | .bool, x, off => if off = 0 then T.cast (a := .bool) want x else none
 | .int k, x, off => if off = 0 then T.cast (a := .int k) want x else none
 | .str, x, off => if off = 0 then T.cast (a := .str) want x else none
 | .con n, x, off => if off = 0 then T.cast (a := .con n) want x else none
 | .sl t, x, off => if off = 0 then T.cast (a := .sl t) want x else none
 | .st fs, x, off => if off = 0 ∧ T.st fs = want then T.cast (a := .st fs) want x else T.rd want fs x off
 | .one t, x, off => T.rd want t x off
 | .cons t ts, x, off => if off < t.size then T.rd want t x.1 off else T.rd want ts x.2 (off - t.size)
theorem rep_cast {I : Nat → Prop} {w : World} {a b : T} {x : a.D} {y : b.D} (h : T.cast b x = some y) {cs : List Value} (hr : rep I w a x cs) : rep I w b y cs := by
 obtain ⟨e, rfl⟩ := T.cast_some h
 subst e
 exact hr
theorem T.rd_sound {I : Nat → Prop} {w : World} {want : T} : ∀ {t : T} {x : t.D} {off : Nat} {y : want.D} {cs : List Value}, T.rd want t x off = some y → rep I w t x cs →
 ∃ pre es post, cs = pre ++ es ++ post ∧ pre.length = off ∧ rep I w want y es := by
 intro t
 have base : ∀ (t : T) (x : t.D) (off : Nat) (y : want.D) (cs : List Value), (if off = 0 then T.cast want x else none) = some y → rep I w t x cs →
  ∃ pre es post, cs = pre ++ es ++ post ∧ pre.length = off ∧ rep I w want y es := by
  intro t x off y cs h hr
  split at h
  ·rename_i h0; exact ⟨[], cs, [], by simp, by simp [h0], rep_cast h hr⟩
  ·cases h
 induction t with
 | bool => intro x off y cs h hr; exact base .bool x off y cs h hr
 | int k => intro x off y cs h hr; exact base (.int k) x off y cs h hr
 | str => intro x off y cs h hr; exact base .str x off y cs h hr
 | con n => intro x off y cs h hr; exact base (.con n) x off y cs h hr
 | sl t ih => intro x off y cs h hr; exact base (.sl t) x off y cs h hr
 | st fs ih =>
   intro x off y cs h hr
   rw [T.rd] at h
   split at h
   ·rename_i h0; exact ⟨[], cs, [], by simp, by simp [h0], rep_cast h hr⟩
   ·rw [rep] at hr; exact ih h hr
 | one t ih => intro x off y cs h hr; rw [T.rd] at h; rw [rep] at hr; exact ih h hr
 | cons t ts ih1 ih2 =>
   intro x off y cs h hr
   rw [T.rd] at h
   rw [rep] at hr
   obtain ⟨c1, c2, rfl, h1, h2⟩ := hr
   have hl := rep_length h1
   split at h
   ·obtain ⟨pre, es, post, rfl, hp, he⟩ := ih1 h h1
    exact ⟨pre, es, post ++ c2, by simp, hp, he⟩
   ·rename_i hge
    obtain ⟨pre, es, post, rfl, hp, he⟩ := ih2 h h2
    exact ⟨c1 ++ pre, es, post, by simp, by simp; omega, he⟩
def T.wr (want : T) (y : want.D) : (t : T) → t.D → Nat → Option t.D
 | .bool, _, off => if off = 0 then T.cast .bool y else none
 | .int k, _, off => if off = 0 then T.cast (.int k) y else none
 | .str, _, off => if off = 0 then T.cast .str y else none
 | .con n, _, off => if off = 0 then T.cast (.con n) y else none
 | .sl t, _, off => if off = 0 then T.cast (.sl t) y else none
 | .st fs, x, off => if off = 0 ∧ want = T.st fs then T.cast (.st fs) y else T.wr want y fs x off
 | .one t, x, off => T.wr want y t x off
 | .cons t ts, x, off => if off < t.size then (T.wr want y t x.1 off).map fun z => (z, x.2) else (T.wr want y ts x.2 (off - t.size)).map fun z => (x.1, z)
theorem T.wr_sound {I : Nat → Prop} {w : World} {want : T} {y : want.D} {ey : List Value} (hy : rep I w want y ey) :
 ∀ {t : T} {x : t.D} {off : Nat} {z : t.D} {cs : List Value}, T.wr want y t x off = some z → rep I w t x cs →
 ∃ pre es post, cs = pre ++ es ++ post ∧ pre.length = off ∧ es.length = ey.length ∧ rep I w t z (pre ++ ey ++ post) := by
 intro t
 have base : ∀ (t : T) (x : t.D) (off : Nat) (z : t.D) (cs : List Value), (if off = 0 then T.cast t y else none) = some z → rep I w t x cs →
  ∃ pre es post, cs = pre ++ es ++ post ∧ pre.length = off ∧ es.length = ey.length ∧ rep I w t z (pre ++ ey ++ post) := by
  intro t x off z cs h hr
  split at h
  ·rename_i h0
   have hz := rep_cast h hy
   exact ⟨[], cs, [], by simp, by simp [h0], by rw [rep_length hr, rep_length hz], by simpa using hz⟩
  ·cases h
 induction t with
 | bool => intro x off z cs h hr; exact base .bool x off z cs h hr
 | int k => intro x off z cs h hr; exact base (.int k) x off z cs h hr
 | str => intro x off z cs h hr; exact base .str x off z cs h hr
 | con n => intro x off z cs h hr; exact base (.con n) x off z cs h hr
 | sl t ih => intro x off z cs h hr; exact base (.sl t) x off z cs h hr
 | st fs ih =>
   intro x off z cs h hr
   rw [T.wr] at h
   split at h
   ·rename_i h0
    have hz := rep_cast h hy
    exact ⟨[], cs, [], by simp, by simp [h0], by rw [rep_length hr, rep_length hz], by simpa using hz⟩
   ·rw [rep] at hr; simpa only [rep] using ih h hr
 | one t ih => intro x off z cs h hr; rw [T.wr] at h; rw [rep] at hr; simpa only [rep] using ih h hr
 | cons t ts ih1 ih2 =>
   intro x off z cs h hr
   rw [T.wr] at h
   rw [rep] at hr
   obtain ⟨c1, c2, rfl, h1, h2⟩ := hr
   have hl := rep_length h1
   split at h
   ·cases hz : T.wr want y t x.1 off with
    | none => rw [hz] at h; cases h
    | some z1 =>
      rw [hz] at h
      obtain rfl := Option.some.inj h
      obtain ⟨pre, es, post, rfl, hp, he, hr⟩ := ih1 hz h1
      exact ⟨pre, es, post ++ c2, by simp, hp, he, by rw [rep]; exact ⟨pre ++ ey ++ post, c2, by simp, hr, h2⟩⟩
   ·rename_i hge
    cases hz : T.wr want y ts x.2 (off - t.size) with
    | none => rw [hz] at h; cases h
    | some z1 =>
      rw [hz] at h
      obtain rfl := Option.some.inj h
      obtain ⟨pre, es, post, rfl, hp, he, hr⟩ := ih2 hz h2
      exact ⟨c1 ++ pre, es, post, by simp, by simp; omega, he, by rw [rep]; exact ⟨c1, pre ++ ey ++ post, by simp, h1, hr⟩⟩
def explode : (fs : T) → fs.D → V
 | .one t, x => .vcons (.d t x) .vnil
 | .cons t ts, x => .vcons (.d t x.1) (explode ts x.2)
 | .bool, x => .vcons (.d .bool x) .vnil
 | .int k, x => .vcons (.d (.int k) x) .vnil
 | .str, x => .vcons (.d .str x) .vnil
 | .con n, x => .vcons (.d (.con n) x) .vnil
 | .sl t, x => .vcons (.d (.sl t) x) .vnil
 | .st t, x => .vcons (.d (.st t) x) .vnil
theorem explode_sound {I : Nat → Prop} {ι : Nat → Loc} {w : World} : ∀ {fs : T} {x : fs.D} {cs : List Value}, rep I w fs x cs → repC I ι w (explode fs x) cs := by
 intro fs
 induction fs with
 | cons t ts ih1 ih2 =>
   intro x cs h
   rw [rep] at h
   obtain ⟨c1, c2, rfl, h1, h2⟩ := h
   rw [explode, repC]
   exact ⟨c1, c2, rfl, by rw [repC]; exact h1, ih2 h2⟩
 | one t ih => intro x cs h; rw [rep] at h; rw [explode, repC]; exact ⟨cs, [], by simp, by rw [repC]; exact h, by rw [repC]⟩
 | _ => intro x cs h; rw [explode, repC]; exact ⟨cs, [], by simp, by rw [repC]; exact h, by rw [repC]⟩
def V.app : V → V → V
 | .vcons a b, c => .vcons a (b.app c)
 | _, c => c
def V.chain : V → Bool
 | .vnil => true
 | .vcons _ b => b.chain
 | _ => false
theorem V.app_sound {I : Nat → Prop} {ι : Nat → Loc} {w : World} : ∀ {a b : V} {c1 c2 : List Value}, a.chain = true → repC I ι w a c1 → repC I ι w b c2 → repC I ι w (a.app b) (c1 ++ c2) := by
 intro a
 induction a with
 | vnil => intro b c1 c2 _ h1 h2; rw [repC] at h1; subst h1; simpa [V.app] using h2
 | vcons x y ih1 ih2 =>
   intro b c1 c2 hc h1 h2
   rw [repC] at h1
   obtain ⟨c3, c4, rfl, h3, h4⟩ := h1
   rw [V.app, repC]
   exact ⟨c3, c4 ++ c2, by simp, h3, ih2 hc h4 h2⟩
 | _ => intro b c1 c2 hc; cases hc
def V.single : V → Bool
 | .ptr .. | .pt .. | .elt .. | .vec .. | .sub .. | .nil | .fn .. => true
 | _ => false
def partRd (want : Option T) (a : V) (off : Nat) : Option V :=
 match a with
 | .d t x => want.bind fun τ => (T.rd τ t x off).map (V.d τ)
 | a => if a.single = true ∧ off = 0 ∧ want.all (fun τ => !τ.isAgg) = true then some a else none
theorem partRd_sound {I : Nat → Prop} {ι : Nat → Loc} {w : World} {want : Option T} {a : V} {off : Nat} {y : V} {cs : List Value} (h : partRd want a off = some y) (hr : repC I ι w a cs) :
 ∃ pre es post, cs = pre ++ es ++ post ∧ pre.length = off ∧ repC I ι w y es ∧ ((∃ τ z, want = some τ ∧ y = .d τ z) ∨ (y.single = true ∧ want.all (fun τ => !τ.isAgg) = true)) := by
 unfold partRd at h
 split at h
 ·rename_i t x
  cases want with
  | none => cases h
  | some τ =>
    rw [Option.bind_some] at h
    cases hz : T.rd τ t x off with
    | none => rw [hz] at h; cases h
    | some z =>
      rw [hz] at h
      obtain rfl := Option.some.inj h
      rw [repC] at hr
      obtain ⟨pre, es, post, rfl, hp, he⟩ := T.rd_sound hz hr
      exact ⟨pre, es, post, rfl, hp, by rw [repC]; exact he, .inl ⟨τ, z, rfl, rfl⟩⟩
 ·split at h
  ·rename_i hs
   obtain rfl := Option.some.inj h
   exact ⟨[], cs, [], by simp, by simp [hs.2.1], hr, .inr ⟨hs.1, hs.2.2⟩⟩
  ·cases h
def V.rd (want : Option T) : V → Nat → Option V
 | .vcons a b, off => if off < a.csize then partRd want a off else V.rd want b (off - a.csize)
 | _, _ => none
theorem V.rd_sound {I : Nat → Prop} {ι : Nat → Loc} {w : World} {want : Option T} : ∀ {x : V} {off : Nat} {y : V} {cs : List Value}, V.rd want x off = some y → repC I ι w x cs →
 ∃ pre es post, cs = pre ++ es ++ post ∧ pre.length = off ∧ repC I ι w y es ∧ ((∃ τ z, want = some τ ∧ y = .d τ z) ∨ (y.single = true ∧ want.all (fun τ => !τ.isAgg) = true)) := by
 intro x
 induction x with
 | vcons a b ih1 ih2 =>
   intro off y cs h hr
   rw [V.rd] at h
   rw [repC] at hr
   obtain ⟨c1, c2, rfl, h1, h2⟩ := hr
   have hl := repC_length h1
   split at h
   ·obtain ⟨pre, es, post, rfl, hp, he⟩ := partRd_sound h h1
    exact ⟨pre, es, post ++ c2, by simp, hp, he⟩
   ·obtain ⟨pre, es, post, rfl, hp, he⟩ := ih2 h h2
    exact ⟨c1 ++ pre, es, post, by simp, by simp; omega, he⟩
 | _ => intro off y cs h; cases h
def V.wr1 (v : V) : V → Nat → Option V
 | .vcons a b, off => if off < a.csize then (if off = 0 ∧ a.csize = v.csize then some (.vcons v b) else none) else (V.wr1 v b (off - a.csize)).map (V.vcons a)
 | _, _ => none
theorem V.wr1_sound {I : Nat → Prop} {ι : Nat → Loc} {w : World} {v : V} {ev : List Value} (hv : repC I ι w v ev) :
 ∀ {x : V} {off : Nat} {z : V} {cs : List Value}, V.wr1 v x off = some z → repC I ι w x cs →
 ∃ pre es post, cs = pre ++ es ++ post ∧ pre.length = off ∧ es.length = ev.length ∧ repC I ι w z (pre ++ ev ++ post) := by
 intro x
 induction x with
 | vcons a b ih1 ih2 =>
   intro off z cs h hr
   rw [V.wr1] at h
   rw [repC] at hr
   obtain ⟨c1, c2, rfl, h1, h2⟩ := hr
   have hl := repC_length h1
   split at h
   ·split at h
    ·rename_i hs
     obtain rfl := Option.some.inj h
     exact ⟨[], c1, c2, by simp, by simp [hs.1], by rw [hl, hs.2, repC_length hv], by rw [repC]; exact ⟨ev, c2, by simp, hv, h2⟩⟩
    ·cases h
   ·cases hz : V.wr1 v b (off - a.csize) with
    | none => rw [hz] at h; cases h
    | some z1 =>
      rw [hz] at h
      obtain rfl := Option.some.inj h
      obtain ⟨pre, es, post, rfl, hp, he, hr⟩ := ih2 hz h2
      exact ⟨c1 ++ pre, es, post, by simp, by simp; omega, he, by rw [repC]; exact ⟨c1, pre ++ ev ++ post, by simp, h1, hr⟩⟩
 | _ => intro off z cs h; cases h
def partWr (v a : V) (off : Nat) (b : V) : Option V :=
 match v, a with
 | .d tv y, .d t x => (T.wr tv y t x off).map fun x' => .vcons (.d t x') b
 | .agg l, .d t _ => if off = 0 ∧ l.chain = true ∧ l.csize = t.size then some (l.app b) else none
 | v, .d (.st fs) x => if (explode fs x).chain = true then (V.wr1 v (explode fs x) off).bind fun c => if c.chain = true then some (c.app b) else none else none
 | v, a => if off = 0 ∧ a.csize = v.csize then some (.vcons v b) else none
theorem partWr_sound {I : Nat → Prop} {ι : Nat → Loc} {w : World} {v : V} {ev : List Value} (hv : repC I ι w v ev) {a : V} {off : Nat} {b z : V} {c1 c2 : List Value}
 (h : partWr v a off b = some z) (h1 : repC I ι w a c1) (h2 : repC I ι w b c2) :
 ∃ pre es post, c1 ++ c2 = pre ++ es ++ post ∧ pre.length = off ∧ es.length = ev.length ∧ repC I ι w z (pre ++ ev ++ post) := by
 have hl := repC_length h1
 unfold partWr at h
 split at h
 ·rename_i tv y t x
  cases hz : T.wr tv y t x off with
  | none => rw [hz] at h; cases h
  | some z1 =>
    rw [hz] at h
    obtain rfl := Option.some.inj h
    rw [repC] at h1 hv
    obtain ⟨pre, es, post, rfl, hp, he, hr⟩ := T.wr_sound hv hz h1
    exact ⟨pre, es, post ++ c2, by simp, hp, he, by rw [repC]; exact ⟨pre ++ ev ++ post, c2, by simp, by rw [repC]; exact hr, h2⟩⟩
 ·rename_i l t x
  split at h
  ·rename_i hs
   obtain rfl := Option.some.inj h
   have hv' := hv
   rw [repC] at hv
   refine ⟨[], c1, c2, by simp, by simp [hs.1], ?_, by simpa using V.app_sound hs.2.1 hv h2⟩
   rw [hl, repC_length hv', V.csize, V.csize, hs.2.2]
  ·cases h
 ·rename_i fs x hnot hnot2
  split at h
  ·cases hz : V.wr1 v (explode fs x) off with
   | none => rw [hz] at h; cases h
   | some z1 =>
     rw [hz, Option.bind_some] at h
     split at h
     ·rename_i hc
      obtain rfl := Option.some.inj h
      rw [repC, rep] at h1
      obtain ⟨pre, es, post, rfl, hp, he, hr⟩ := V.wr1_sound hv hz (explode_sound h1)
      exact ⟨pre, es, post ++ c2, by simp, hp, he, by simpa using V.app_sound hc hr h2⟩
     ·cases h
  ·cases h
 ·split at h
  ·rename_i hs
   obtain rfl := Option.some.inj h
   exact ⟨[], c1, c2, by simp, by simp [hs.1], by rw [hl, hs.2, repC_length hv], by rw [repC]; exact ⟨ev, c2, by simp, hv, h2⟩⟩
  ·cases h
def V.wr (v : V) : V → Nat → Option V
 | .vcons a b, off => if off < a.csize then partWr v a off b else (V.wr v b (off - a.csize)).map (V.vcons a)
 | _, _ => none
theorem V.wr_sound {I : Nat → Prop} {ι : Nat → Loc} {w : World} {v : V} {ev : List Value} (hv : repC I ι w v ev) :
 ∀ {x : V} {off : Nat} {z : V} {cs : List Value}, V.wr v x off = some z → repC I ι w x cs →
 ∃ pre es post, cs = pre ++ es ++ post ∧ pre.length = off ∧ es.length = ev.length ∧ repC I ι w z (pre ++ ev ++ post) := by
 intro x
 induction x with
 | vcons a b ih1 ih2 =>
   intro off z cs h hr
   rw [V.wr] at h
   rw [repC] at hr
   obtain ⟨c1, c2, rfl, h1, h2⟩ := hr
   have hl := repC_length h1
   split at h
   ·exact partWr_sound hv h h1 h2
   ·cases hz : V.wr v b (off - a.csize) with
    | none => rw [hz] at h; cases h
    | some z1 =>
      rw [hz] at h
      obtain rfl := Option.some.inj h
      obtain ⟨pre, es, post, rfl, hp, he, hr⟩ := ih2 hz h2
      exact ⟨c1 ++ pre, es, post, by simp, by simp; omega, he, by rw [repC]; exact ⟨c1, pre ++ ev ++ post, by simp, h1, hr⟩⟩
 | _ => intro off z cs h; cases h
end Go.Sw

namespace Go.Sw
structure HoldsE (F : Nat → Prop) (σ : Nat → Option E) (ι : Nat → Loc) (w : World) : Prop where
 ents : ∀ id e, σ id = some e → repE (Imm F ι w) ι w e (ι id)
 dead : ∀ id, σ id = none → ι id = .dead
 inj : ∀ id id' B n n', ι id = .blk B n → ι id' = .blk B n' → id = id'
 foreign : ∀ b, F b → b < w.heap.size ∧ ∀ id n, ι id ≠ .blk b n
theorem Holds.mem {F : Nat → Prop} {n : Nat} {γ : Nat → V} {σ : Nat → Option E} {ι : Nat → Loc} {a : Act} {w : World} (h : Holds F n γ σ ι a w) : HoldsE F σ ι w :=
 ⟨h.ents, h.dead, h.inj, h.foreign⟩
def E.kill (p : Nat → Bool) : E → E
 | .box t c => .box t (c.kill p)
 | .vec e t l => .vec e t l
theorem E.kill_none (e : E) : e.kill none' = e := by cases e <;> simp [E.kill, V.kill_none]
structure Turn (F : Nat → Prop) (p : Nat → Bool) (ι : Nat → Loc) (w : World) (σ' : Nat → Option E) (ι' : Nat → Loc) (w' : World) : Prop where
 stay : Stay (Imm F ι w) (Imm F ι' w') w w'
 same : Same p ι ι' w w'
 mem : HoldsE F σ' ι' w'
 ext : Ext ι w ι' w'
theorem HoldsE.blk_lt {F : Nat → Prop} {σ : Nat → Option E} {ι : Nat → Loc} {w : World} (h : HoldsE F σ ι w) {id B n : Nat} (hb : ι id = .blk B n) : B < w.heap.size := by
 cases hs : σ id with
 | none => rw [h.dead id hs] at hb; cases hb
 | some e =>
   have he := h.ents id e hs
   rw [hb] at he
   have : ∀ {o : Obj}, w.heap[B]? = some o → B < w.heap.size := fun ho => (Array.getElem?_eq_some_iff.1 ho).1
   cases e with
   | box t c => obtain ⟨arr, h1, _⟩ := he; exact this h1
   | vec e t l => obtain ⟨_, arr, es, h1, _⟩ := he; exact this h1
theorem cell_of_heap {w w' : World} {b o : Nat} (h : w'.heap[b]? = w.heap[b]?) : w'.cell? ⟨b, o, none⟩ = w.cell? ⟨b, o, none⟩ := by
 unfold World.cell?; rw [h]
theorem blkSize_of_heap {w w' : World} {b : Nat} (h : w'.heap[b]? = w.heap[b]?) : blkSize w' b = blkSize w b := by
 unfold blkSize; rw [h]
theorem repE_kill {I I' : Nat → Prop} {ι ι' : Nat → Loc} {w w' : World} {p : Nat → Bool} (hs : Stay I I' w w') (hl : Same p ι ι' w w') {e : E} {l : Loc}
 (hb : ∀ B n, l = .blk B n → w'.heap[B]? = w.heap[B]?) (h : repE I ι w e l) : repE I' ι' w' (e.kill p) l := by
 cases e with
 | box t c =>
   cases l with
   | blk B n =>
     obtain ⟨arr, h1, h2⟩ := h
     exact ⟨arr, by rw [hb B n rfl]; exact h1, repC_kill hs hl h2⟩
   | _ => exact h.elim
 | vec e t xs =>
   cases l with
   | blk B n =>
     obtain ⟨hn, arr, es, h1, h2, ha, hr⟩ := h
     exact ⟨hn, arr, es, by rw [hb B n rfl]; exact h1, h2, fun j v hj => by rw [cell_of_heap (hb B n rfl)]; exact ha j v hj, repL_mono (fun _ _ => rep_stay hs) hr⟩
   | nilv => exact h
   | dead => exact h.elim
theorem repE_same {I I' : Nat → Prop} {ι ι' : Nat → Loc} {w w' : World} (hs : Stay I I' w w') (hl : Same none' ι ι' w w') {e : E} {l : Loc}
 (hb : ∀ B n, l = .blk B n → w'.heap[B]? = w.heap[B]?) (h : repE I ι w e l) : repE I' ι' w' e l := by
 have := repE_kill hs hl hb h; rwa [E.kill_none] at this
def updL (ι : Nat → Loc) (k : Nat) (l : Loc) : Nat → Loc := fun id => if id = k then l else ι id
def updE (σ : Nat → Option E) (k : Nat) (e : Option E) : Nat → Option E := fun id => if id = k then e else σ id
def killE (p : Nat → Bool) (σ : Nat → Option E) : Nat → Option E := fun id => (σ id).map (E.kill p)
theorem killE_none (σ : Nat → Option E) : killE none' σ = σ := by
 funext id
 unfold killE
 cases σ id with
 | none => rfl
 | some e => simp [E.kill_none]
theorem killE_some {p : Nat → Bool} {σ : Nat → Option E} {id : Nat} {e : E} (h : killE p σ id = some e) : ∃ e0, σ id = some e0 ∧ e = e0.kill p := by
 unfold killE at h
 cases hs : σ id with
 | none => rw [hs] at h; cases h
 | some e0 => rw [hs] at h; exact ⟨e0, rfl, (Option.some.inj h).symm⟩
theorem killE_nil {p : Nat → Bool} {σ : Nat → Option E} {id : Nat} (h : killE p σ id = none) : σ id = none := by
 unfold killE at h
 cases hs : σ id with
 | none => rfl
 | some e0 => rw [hs] at h; cases h
theorem updL_same (ι : Nat → Loc) (k : Nat) (l : Loc) : updL ι k l k = l := if_pos rfl
theorem updL_ne (ι : Nat → Loc) {k id : Nat} (l : Loc) (h : id ≠ k) : updL ι k l id = ι id := if_neg h
theorem updE_same (σ : Nat → Option E) (k : Nat) (e : Option E) : updE σ k e k = e := if_pos rfl
theorem updE_ne (σ : Nat → Option E) {k id : Nat} (e : Option E) (h : id ≠ k) : updE σ k e id = σ id := if_neg h
theorem heap_alloc_lt (w : World) (o : Obj) {b : Nat} (h : b < w.heap.size) : (w.alloc o).heap[b]? = w.heap[b]? := by
 show (w.heap.push o)[b]? = _
 rw [Array.getElem?_push, if_neg (by omega)]
theorem heap_alloc_new' (w : World) (o : Obj) : (w.alloc o).heap[w.heap.size]? = some o := by
 show (w.heap.push o)[w.heap.size]? = _
 rw [Array.getElem?_push, if_pos rfl]
theorem cell_lt {w : World} {b o : Nat} {v : Value} (h : w.cell? ⟨b, o, none⟩ = some v) : b < w.heap.size := World.block_lt_of_cell? _ _ h
section
variable {F : Nat → Prop} {σ : Nat → Option E} {ι : Nat → Loc} {w : World}
theorem Turn.kill (h : HoldsE F σ ι w) (p : Nat → Bool) : Turn F p ι w (killE p σ) ι w := by
 have hst : Stay (Imm F ι w) (Imm F ι w) w w := ⟨fun _ h => h, fun _ _ _ _ h => h⟩
 have hsm : Same p ι ι w w := ⟨fun _ _ _ => rfl, fun _ _ _ _ _ => rfl⟩
 refine ⟨hst, hsm, ⟨fun id e he => ?_, fun id hid => h.dead id (killE_nil hid), h.inj, h.foreign⟩, Ext.refl _ _⟩
 obtain ⟨e0, h0, rfl⟩ := killE_some he
 exact repE_kill hst hsm (fun _ _ _ => rfl) (h.ents id e0 h0)
theorem Turn.refl (h : HoldsE F σ ι w) : Turn F none' ι w σ ι w := by
 have := Turn.kill h none'
 rwa [killE_none] at this
theorem Turn.quiet (h : HoldsE F σ ι w) {w' : World} (hh : w'.heap = w.heap) (ho : w'.os = w.os) (ht : w'.tape = w.tape) (hu : w'.output = w.output) : Turn F none' ι w σ ι w' := by
 have hst : Stay (Imm F ι w) (Imm F ι w') w w' := ⟨fun _ hb => ⟨by rw [hh]; exact hb.1, hb.2⟩, fun b o v _ hc => by rw [cell_of_heap (w' := w') (w := w) (by rw [hh])]; exact hc⟩
 have hsm : Same none' ι ι w w' := ⟨fun _ _ _ => rfl, fun _ _ _ _ _ => blkSize_of_heap (by rw [hh])⟩
 exact ⟨hst, hsm, ⟨fun id e he => repE_same hst hsm (fun B _ _ => by rw [hh]) (h.ents id e he), h.dead, h.inj, fun b hb => by rw [hh]; exact h.foreign b hb⟩,
  ⟨ho, ht, hu, by rw [hh]; exact Nat.le_refl _, fun _ _ _ => by rw [hh], fun id _ n h => .inl ⟨id, n, h⟩⟩⟩
theorem Turn.drew (h : HoldsE F σ ι w) : Turn F none' ι w σ ι w.drew := Turn.quiet h rfl rfl rfl rfl
theorem Turn.fresh (h : HoldsE F σ ι w) (o : Obj) : Turn F none' ι w σ ι (w.alloc o) := by
 have hst : Stay (Imm F ι w) (Imm F ι (w.alloc o)) w (w.alloc o) :=
  ⟨fun b hb => ⟨by have := hb.1; simp; omega, hb.2⟩, fun b o' v _ hc => by rw [cell_of_heap (heap_alloc_lt w o (cell_lt hc))]; exact hc⟩
 have hsm : Same none' ι ι w (w.alloc o) := ⟨fun _ _ _ => rfl, fun id B n _ hB => blkSize_of_heap (heap_alloc_lt w o (h.blk_lt hB))⟩
 refine ⟨hst, hsm, ⟨fun id e he => repE_same hst hsm (fun B n hB => heap_alloc_lt w o (h.blk_lt hB)) (h.ents id e he), h.dead, h.inj, fun b hb => ?_⟩,
  ⟨rfl, rfl, rfl, by simp, fun b hb _ => heap_alloc_lt w o hb, fun id _ n h => .inl ⟨id, n, h⟩⟩⟩
 obtain ⟨h1, h2⟩ := h.foreign b hb
 exact ⟨by simp; omega, h2⟩
theorem imm_fresh (h : HoldsE F σ ι w) (o : Obj) : Imm F ι (w.alloc o) w.heap.size := by
 refine ⟨by simp, fun hF => ?_, fun id n hid => ?_⟩
 ·have := (h.foreign _ hF).1; omega
 ·have := h.blk_lt hid; omega
theorem Turn.named (h : HoldsE F σ ι w) {k : Nat} (hk : σ k = none) (o : Obj) (n : Nat) (e : E)
 (he : Stay (Imm F ι w) (Imm F (updL ι k (.blk w.heap.size n)) (w.alloc o)) w (w.alloc o) → Same none' ι (updL ι k (.blk w.heap.size n)) w (w.alloc o) →
   repE (Imm F (updL ι k (.blk w.heap.size n)) (w.alloc o)) (updL ι k (.blk w.heap.size n)) (w.alloc o) e (.blk w.heap.size n)) :
 Turn F none' ι w (updE σ k (some e)) (updL ι k (.blk w.heap.size n)) (w.alloc o) := by
 have hdead := h.dead k hk
 have hlt : ∀ id B n, ι id = .blk B n → B < w.heap.size := fun id B n hB => h.blk_lt hB
 have hst : Stay (Imm F ι w) (Imm F (updL ι k (.blk w.heap.size n)) (w.alloc o)) w (w.alloc o) := by
  constructor
  ·rintro b ⟨h1, h2, h3⟩
   refine ⟨by simp; omega, h2, fun id m hid => ?_⟩
   by_cases hk' : id = k
   ·subst hk'; rw [updL_same] at hid; injection hid with hid; omega
   ·rw [updL_ne _ _ hk'] at hid; exact h3 id m hid
  ·intro b o' v _ hc
   rw [cell_of_heap (heap_alloc_lt w o (cell_lt hc))]; exact hc
 have hsm : Same none' ι (updL ι k (.blk w.heap.size n)) w (w.alloc o) := by
  constructor
  ·intro id _ hne
   have : id ≠ k := fun hik => hne (by rw [hik]; exact hdead)
   exact updL_ne _ _ this
  ·intro id B m _ hB
   exact blkSize_of_heap (heap_alloc_lt w o (hlt id B m hB))
 refine ⟨hst, hsm, ⟨fun id e' he' => ?_, fun id hid => ?_, fun id id' B m m' h1 h2 => ?_, fun b hb => ?_⟩, ⟨rfl, rfl, rfl, by simp, fun b hb _ => heap_alloc_lt w o hb, fun id B m hB => ?_⟩⟩
 ·by_cases hk' : id = k
  ·subst hk'
   rw [updE_same] at he'
   obtain rfl := Option.some.inj he'
   rw [updL_same]
   exact he hst hsm
  ·rw [updE_ne _ _ hk'] at he'
   rw [updL_ne _ _ hk']
   exact repE_same hst hsm (fun B m hB => heap_alloc_lt w o (hlt id B m hB)) (h.ents id e' he')
 ·by_cases hk' : id = k
  ·subst hk'; rw [updE_same] at hid; cases hid
  ·rw [updE_ne _ _ hk'] at hid; rw [updL_ne _ _ hk']; exact h.dead id hid
 ·by_cases hk1 : id = k <;> by_cases hk2 : id' = k
  ·rw [hk1, hk2]
  ·subst hk1; rw [updL_same] at h1; rw [updL_ne _ _ hk2] at h2; injection h1 with h1; have := hlt _ _ _ h2; omega
  ·subst hk2; rw [updL_same] at h2; rw [updL_ne _ _ hk1] at h1; injection h2 with h2; have := hlt _ _ _ h1; omega
  ·rw [updL_ne _ _ hk1] at h1; rw [updL_ne _ _ hk2] at h2; exact h.inj _ _ _ _ _ h1 h2
 ·obtain ⟨h1, h2⟩ := h.foreign b hb
  refine ⟨by simp; omega, fun id m hid => ?_⟩
  by_cases hk' : id = k
  ·subst hk'; rw [updL_same] at hid; injection hid with hid; omega
  ·rw [updL_ne _ _ hk'] at hid; exact h2 id m hid
 ·by_cases hk' : id = k
  ·subst hk'; rw [updL_same] at hB; injection hB with hB; exact .inr (by omega)
  ·rw [updL_ne _ _ hk'] at hB; exact .inl ⟨id, m, hB⟩
theorem Turn.write' (h : HoldsE F σ ι w) {k B n : Nat} (hk : ι k = .blk B n) (n' : Nat) {w' : World} (hsz : w'.heap.size = w.heap.size) (hother : ∀ b, b ≠ B → w'.heap[b]? = w.heap[b]?)
 (hbs : blkSize w' B = blkSize w B) (ho : w'.os = w.os) (ht : w'.tape = w.tape) (hu : w'.output = w.output) (e : E) (p : Nat → Bool) (hp : n = n' ∨ p k = true)
 (he : Stay (Imm F ι w) (Imm F (updL ι k (.blk B n')) w') w w' → Same p ι (updL ι k (.blk B n')) w w' → repE (Imm F (updL ι k (.blk B n')) w') (updL ι k (.blk B n')) w' e (.blk B n')) :
 Turn F p ι w (updE (killE p σ) k (some e)) (updL ι k (.blk B n')) w' := by
 have hst : Stay (Imm F ι w) (Imm F (updL ι k (.blk B n')) w') w w' := by
  refine ⟨fun b hb => ⟨by rw [hsz]; exact hb.1, hb.2.1, fun id m hid => ?_⟩, fun b o v hb hc => by rw [cell_of_heap (hother b (fun hbB => hb.2.2 k n (by rw [hk, hbB])))]; exact hc⟩
  by_cases hk' : id = k
  ·subst hk'; rw [updL_same] at hid; injection hid with h1 h2; exact hb.2.2 id n (by rw [hk, h1])
  ·rw [updL_ne _ _ hk'] at hid; exact hb.2.2 id m hid
 have hsm : Same p ι (updL ι k (.blk B n')) w w' := by
  refine ⟨fun id hpf _ => ?_, fun id B' m _ hB => ?_⟩
  ·by_cases hk' : id = k
   ·subst hk'
    rcases hp with hp | hp
    ·rw [updL_same, hk, hp]
    ·rw [hp] at hpf; cases hpf
   ·exact updL_ne _ _ hk'
  ·by_cases hBB : B' = B
   ·subst hBB; exact hbs
   ·exact blkSize_of_heap (hother _ hBB)
 refine ⟨hst, hsm, ⟨fun id e' he' => ?_, fun id hid => ?_, fun id id' B' m m' h1 h2 => ?_, fun b hb => ?_⟩, ⟨ho, ht, hu, by omega, fun b hb hn => hother b (fun hbB => hn k n (by rw [hk, hbB])), fun id B' m hB => ?_⟩⟩
 ·by_cases hk' : id = k
  ·subst hk'
   rw [updE_same] at he'
   obtain rfl := Option.some.inj he'
   rw [updL_same]
   exact he hst hsm
  ·rw [updE_ne _ _ hk'] at he'
   rw [updL_ne _ _ hk']
   obtain ⟨e0, h0, rfl⟩ := killE_some he'
   exact repE_kill hst hsm (fun B' m hB' => hother _ (fun hBB => hk' (h.inj id k B m n (by rw [hB', hBB]) hk))) (h.ents id e0 h0)
 ·by_cases hk' : id = k
  ·subst hk'; rw [updE_same] at hid; cases hid
  ·rw [updE_ne _ _ hk'] at hid; rw [updL_ne _ _ hk']; exact h.dead id (killE_nil hid)
 ·have back : ∀ id m, updL ι k (.blk B n') id = .blk B' m → ∃ m', ι id = .blk B' m' := by
   intro id m hid
   by_cases hk' : id = k
   ·subst hk'; rw [updL_same] at hid; injection hid with h1 h2; exact ⟨n, by rw [hk, h1]⟩
   ·rw [updL_ne _ _ hk'] at hid; exact ⟨m, hid⟩
  obtain ⟨m1, e1⟩ := back _ _ h1
  obtain ⟨m2, e2⟩ := back _ _ h2
  exact h.inj _ _ _ _ _ e1 e2
 ·obtain ⟨h1, h2⟩ := h.foreign b hb
  refine ⟨by omega, fun id m hid => ?_⟩
  by_cases hk' : id = k
  ·subst hk'; rw [updL_same] at hid; injection hid with h3 h4; exact h2 id n (by rw [hk, h3])
  ·rw [updL_ne _ _ hk'] at hid; exact h2 id m hid
 ·by_cases hk' : id = k
  ·subst hk'; rw [updL_same] at hB; injection hB with h1 h2; exact .inl ⟨id, n, by rw [hk, h1]⟩
  ·rw [updL_ne _ _ hk'] at hB; exact .inl ⟨id, m, hB⟩
theorem updL_self {k : Nat} {l : Loc} (h : ι k = l) : updL ι k l = ι := by
 funext id
 unfold updL
 split
 ·rename_i e; rw [e, h]
 ·rfl
theorem Turn.write (h : HoldsE F σ ι w) {k B n : Nat} (hk : ι k = .blk B n) {w' : World} (hsz : w'.heap.size = w.heap.size) (hother : ∀ b, b ≠ B → w'.heap[b]? = w.heap[b]?)
 (hbs : blkSize w' B = blkSize w B) (ho : w'.os = w.os) (ht : w'.tape = w.tape) (hu : w'.output = w.output) (e : E)
 (he : Stay (Imm F ι w) (Imm F ι w') w w' → Same none' ι ι w w' → repE (Imm F ι w') ι w' e (.blk B n)) :
 Turn F none' ι w (updE σ k (some e)) ι w' := by
 have := Turn.write' h hk n hsz hother hbs ho ht hu e none' (.inl rfl) (by rw [updL_self hk]; exact he)
 rwa [updL_self hk, killE_none] at this
theorem Turn.drop (h : HoldsE F σ ι w) (k : Nat) :
 Turn F (fun id => id == k) ι w (updE (killE (fun id => id == k) σ) k none) (updL ι k .dead) w := by
 have hst : Stay (Imm F ι w) (Imm F (updL ι k .dead) w) w w := by
  refine ⟨fun b hb => ⟨hb.1, hb.2.1, fun id m hid => ?_⟩, fun _ _ _ _ h => h⟩
  by_cases hk' : id = k
  ·subst hk'; rw [updL_same] at hid; cases hid
  ·rw [updL_ne _ _ hk'] at hid; exact hb.2.2 id m hid
 have hsm : Same (fun id => id == k) ι (updL ι k .dead) w w := by
  refine ⟨fun id hp _ => updL_ne _ _ (by simpa using hp), fun _ _ _ _ _ => rfl⟩
 refine ⟨hst, hsm, ⟨fun id e' he' => ?_, fun id hid => ?_, fun id id' B m m' h1 h2 => ?_, fun b hb => ?_⟩, ⟨rfl, rfl, rfl, Nat.le_refl _, fun _ _ _ => rfl, fun id B m hB => ?_⟩⟩
 ·by_cases hk' : id = k
  ·subst hk'; rw [updE_same] at he'; cases he'
  ·rw [updE_ne _ _ hk'] at he'
   rw [updL_ne _ _ hk']
   obtain ⟨e0, h0, rfl⟩ := killE_some he'
   exact repE_kill hst hsm (fun _ _ _ => rfl) (h.ents id e0 h0)
 ·by_cases hk' : id = k
  ·subst hk'; exact updL_same _ _ _
  ·rw [updE_ne _ _ hk'] at hid
   rw [updL_ne _ _ hk']
   exact h.dead id (killE_nil hid)
 ·by_cases hk1 : id = k
  ·subst hk1; rw [updL_same] at h1; cases h1
  ·by_cases hk2 : id' = k
   ·subst hk2; rw [updL_same] at h2; cases h2
   ·rw [updL_ne _ _ hk1] at h1; rw [updL_ne _ _ hk2] at h2; exact h.inj _ _ _ _ _ h1 h2
 ·obtain ⟨h1, h2⟩ := h.foreign b hb
  refine ⟨h1, fun id m hid => ?_⟩
  by_cases hk' : id = k
  ·subst hk'; rw [updL_same] at hid; cases hid
  ·rw [updL_ne _ _ hk'] at hid; exact h2 id m hid
 ·by_cases hk' : id = k
  ·subst hk'; rw [updL_same] at hB; cases hB
  ·rw [updL_ne _ _ hk'] at hB; exact .inl ⟨id, m, hB⟩
theorem Turn.nilv (h : HoldsE F σ ι w) {k : Nat} (hk : σ k = none) (e : Nat) (t : T) : Turn F none' ι w (updE σ k (some (.vec e t []))) (updL ι k .nilv) w := by
 have hdead := h.dead k hk
 have hst : Stay (Imm F ι w) (Imm F (updL ι k .nilv) w) w w := by
  refine ⟨fun b hb => ⟨hb.1, hb.2.1, fun id m hid => ?_⟩, fun _ _ _ _ h => h⟩
  by_cases hk' : id = k
  ·subst hk'; rw [updL_same] at hid; cases hid
  ·rw [updL_ne _ _ hk'] at hid; exact hb.2.2 id m hid
 have hsm : Same none' ι (updL ι k .nilv) w w := by
  refine ⟨fun id _ hne => updL_ne _ _ (fun hik => hne (by rw [hik]; exact hdead)), fun _ _ _ _ _ => rfl⟩
 refine ⟨hst, hsm, ⟨fun id e' he' => ?_, fun id hid => ?_, fun id id' B m m' h1 h2 => ?_, fun b hb => ?_⟩, ⟨rfl, rfl, rfl, Nat.le_refl _, fun _ _ _ => rfl, fun id B m hB => ?_⟩⟩
 ·by_cases hk' : id = k
  ·subst hk'; rw [updE_same] at he'; obtain rfl := Option.some.inj he'; rw [updL_same]; rfl
  ·rw [updE_ne _ _ hk'] at he'
   rw [updL_ne _ _ hk']
   exact repE_same hst hsm (fun _ _ _ => rfl) (h.ents id e' he')
 ·by_cases hk' : id = k
  ·subst hk'; rw [updE_same] at hid; cases hid
  ·rw [updE_ne _ _ hk'] at hid; rw [updL_ne _ _ hk']; exact h.dead id hid
 ·by_cases hk1 : id = k
  ·subst hk1; rw [updL_same] at h1; cases h1
  ·by_cases hk2 : id' = k
   ·subst hk2; rw [updL_same] at h2; cases h2
   ·rw [updL_ne _ _ hk1] at h1; rw [updL_ne _ _ hk2] at h2; exact h.inj _ _ _ _ _ h1 h2
 ·obtain ⟨h1, h2⟩ := h.foreign b hb
  refine ⟨h1, fun id m hid => ?_⟩
  by_cases hk' : id = k
  ·subst hk'; rw [updL_same] at hid; cases hid
  ·rw [updL_ne _ _ hk'] at hid; exact h2 id m hid
 ·by_cases hk' : id = k
  ·subst hk'; rw [updL_same] at hB; cases hB
  ·rw [updL_ne _ _ hk'] at hB; exact .inl ⟨id, m, hB⟩
end
theorem Turn.trans {F : Nat → Prop} {p q : Nat → Bool} {ι ι' ι'' : Nat → Loc} {w w' w'' : World} {σ' σ'' : Nat → Option E}
 (h : Turn F p ι w σ' ι' w') (k : Turn F q ι' w' σ'' ι'' w'') : Turn F (fun id => p id || q id) ι w σ'' ι'' w'' := by
 refine ⟨⟨fun b hb => k.stay.imm b (h.stay.imm b hb), fun b o v hb hc => k.stay.cell b o v (h.stay.imm b hb) (h.stay.cell b o v hb hc)⟩, ⟨fun id hp hne => ?_, fun id B n hp hB => ?_⟩, k.mem, h.ext.trans k.ext⟩
 ·rw [Bool.or_eq_false_iff] at hp
  have h1 := h.same.loc id hp.1 hne
  rw [k.same.loc id hp.2 (by rw [h1]; exact hne), h1]
 ·rw [Bool.or_eq_false_iff] at hp
  have h1 := h.same.loc id hp.1 (by rw [hB]; simp)
  rw [k.same.size id B n hp.2 (by rw [h1]; exact hB), h.same.size id B n hp.1 hB]
theorem Turn.trans' {F : Nat → Prop} {p : Nat → Bool} {ι ι' ι'' : Nat → Loc} {w w' w'' : World} {σ' σ'' : Nat → Option E}
 (h : Turn F none' ι w σ' ι' w') (k : Turn F p ι' w' σ'' ι'' w'') : Turn F p ι w σ'' ι'' w'' := by
 have := h.trans k
 have hp : (fun id => none' id || p id) = p := by funext id; simp [none']
 rwa [hp] at this
theorem Turn.trans_none {F : Nat → Prop} {p : Nat → Bool} {ι ι' ι'' : Nat → Loc} {w w' w'' : World} {σ' σ'' : Nat → Option E}
 (h : Turn F p ι w σ' ι' w') (k : Turn F none' ι' w' σ'' ι'' w'') : Turn F p ι w σ'' ι'' w'' := by
 have := h.trans k
 have hp : (fun id => p id || none' id) = p := by funext id; simp [none']
 rwa [hp] at this
def anch : Nat := 1000000
def low (id : Nat) : Bool := id < anch
structure ExtA (ι : Nat → Loc) (w : World) (ι' : Nat → Loc) (w' : World) : Prop where
 ext : Ext ι w ι' w'
 same : Same low ι ι' w w'
theorem ExtA.refl (ι : Nat → Loc) (w : World) : ExtA ι w ι w := ⟨Ext.refl _ _, ⟨fun _ _ _ => rfl, fun _ _ _ _ _ => rfl⟩⟩
theorem ExtA.trans {ι ι' ι'' : Nat → Loc} {w w' w'' : World} (h : ExtA ι w ι' w') (k : ExtA ι' w' ι'' w'') : ExtA ι w ι'' w'' := by
 refine ⟨h.ext.trans k.ext, ⟨fun id hp hne => ?_, fun id B n hp hB => ?_⟩⟩
 ·have h1 := h.same.loc id hp hne
  rw [k.same.loc id hp (by rw [h1]; exact hne), h1]
 ·have h1 := h.same.loc id hp (by rw [hB]; simp)
  rw [k.same.size id B n hp (by rw [h1]; exact hB), h.same.size id B n hp hB]
theorem Same.weak {p q : Nat → Bool} {ι ι' : Nat → Loc} {w w' : World} (h : Same p ι ι' w w') (hpq : ∀ id, q id = false → p id = false) : Same q ι ι' w w' :=
 ⟨fun id hq => h.loc id (hpq id hq), fun id B n hq => h.size id B n (hpq id hq)⟩
def getV : List (Nat × V) → Nat → V
 | [], _ => .un
 | (k, v) :: r, t => if k = t then v else getV r t
def getE : List (Nat × E) → Nat → Option E
 | [], _ => none
 | (k, e) :: r, id => if k = id then some e else getE r id
def tabs : List (String × List Value) := [("internal/strconv.uint64pow10", (List.range 20).map fun i => .int .u64 (10 ^ i))]
def Gl (P : Program) (F : Nat → Prop) (ι : Nat → Loc) (w : World) : Prop := ∀ p ∈ tabs, ∀ g, P.globalNamed p.1 = some g → Imm F ι w g ∧ At w g 0 p.2
theorem Gl.stay {P : Program} {F F' : Nat → Prop} {ι ι' : Nat → Loc} {w w' : World} (h : Gl P F ι w) (hs : Stay (Imm F ι w) (Imm F' ι' w') w w') : Gl P F' ι' w' :=
 fun p hp g hg => ⟨hs.imm g (h p hp g hg).1, (h p hp g hg).2.stay hs (h p hp g hg).1⟩
theorem Gl.ext {P : Program} {F : Nat → Prop} {ι ι' : Nat → Loc} {w w' : World} (h : Gl P F ι w) (hx : Ext ι w ι' w') : Gl P F ι' w' := by
 refine h.stay ⟨fun b hb => ⟨Nat.lt_of_lt_of_le hb.1 hx.size, hb.2.1, fun id n hid => ?_⟩, fun b o v hb hc => ?_⟩
 ·rcases hx.new id b n hid with ⟨id0, n0, h0⟩ | h0
  ·exact hb.2.2 id0 n0 h0
  ·have := hb.1; omega
 ·rw [cell_of_heap (hx.keep b hb.1 hb.2.2)]; exact hc
theorem Gl.imm {P : Program} {F F' : Nat → Prop} {ι ι' : Nat → Loc} {w : World} (h : Gl P F ι w) (hi : ∀ b, Imm F ι w b → Imm F' ι' w b) : Gl P F' ι' w :=
 h.stay ⟨hi, fun _ _ _ _ h => h⟩
end Go.Sw

namespace Go.Sw
structure Ctx where
 ty : Nat → Option T
 sc : Nat → Bool
 el : Nat → Nat
 ar : Nat → Bool
 fn : Nat → Bool
 eq : Nat → Bool
def fieldsOk (X : Ctx) : List Field → Nat → T → Bool
 | [f], off, .one t => f.offset == off && decide (X.ty f.type = some t) && decide (0 < t.size)
 | f :: g :: fs, off, .cons t ts => f.offset == off && decide (X.ty f.type = some t) && decide (0 < t.size) && fieldsOk X (g :: fs) (off + t.size) ts
 | _, _, _ => false
def arrayOk (te : T) : Nat → T → Bool
 | 1, .one t => decide (t = te)
 | n + 2, .cons t ts => decide (t = te) && arrayOk te (n + 1) ts
 | _, _ => false
def shapeOk (X : Ctx) (tid : Nat) (d : TypeDesc) (t : T) : Bool :=
 match d, t with
 | .bool, .bool => true
 | .int k, .int k' => decide (k = k')
 | .string, .str => true
 | .pointer _, .con n => n == 0
 | .interface _, .con n => n == 1
 | .slice e, .sl t => decide (X.ty e = some t) && decide (0 < t.size) && X.el tid == e
 | .struct fields, .st fs => fieldsOk X fields.toList 0 fs
 | .array n e, .st fs => match X.ty e with | some te => arrayOk te n fs && decide (0 < te.size) | none => false
 | _, _ => false
def T.zc : T → List Value
 | .bool => [.bool false]
 | .int k => [.int k 0]
 | .str => [.string ByteArray.empty]
 | .con n => [kVal n]
 | .sl _ => [.slice none 0 0]
 | .st fs => fs.zc
 | .one t => t.zc
 | .cons t ts => t.zc ++ ts.zc
def eqCell : Value → Value → Bool
 | .bool a, .bool b => a == b
 | .int k a, .int k' b => decide (k = k') && a == b
 | .string a, .string b => a.data.toList == b.data.toList
 | .slice none 0 0, .slice none 0 0 => true
 | .pointer none, .pointer none => true
 | .nilIface, .nilIface => true
 | _, _ => false
theorem eqCell_sound {a b : Value} (h : eqCell a b = true) : a = b := by
 unfold eqCell at h
 split at h
 ·simp at h; rw [h]
 ·simp at h; rw [h.1, h.2]
 ·rename_i a b
  have : a.data.toList = b.data.toList := by simpa using h
  have : a.data = b.data := Array.ext' this
  have : a = b := by cases a; cases b; simp_all
  rw [this]
 ·rfl
 ·rfl
 ·rfl
 ·cases h
def eqCells : List Value → List Value → Bool
 | [], [] => true
 | a :: as, b :: bs => eqCell a b && eqCells as bs
 | _, _ => false
theorem eqCells_sound : ∀ {a b : List Value}, eqCells a b = true → a = b := by
 intro a
 induction a with
 | nil => intro b h; cases b with | nil => rfl | cons x xs => cases h
 | cons x xs ih =>
   intro b h
   cases b with
   | nil => cases h
   | cons y ys =>
     rw [eqCells, Bool.and_eq_true] at h
     rw [eqCell_sound h.1, ih h.2]
def zeroOk (t : T) (z : Value) : Bool :=
 match z with
 | .agg cs => t.isAgg && eqCells cs.toList t.zc
 | z => !t.isAgg && eqCells [z] t.zc
theorem zeroOk_sound {t : T} {z : Value} (h : zeroOk t z = true) : z = mkVal t.isAgg t.zc := by
 unfold zeroOk at h
 split at h
 ·rw [Bool.and_eq_true] at h
  rw [h.1]
  have := eqCells_sound h.2
  unfold mkVal
  rw [← this]
 ·rw [Bool.and_eq_true, Bool.not_eq_true'] at h
  rw [h.1]
  have := eqCells_sound h.2
  unfold mkVal
  rw [← this]; rfl
theorem rep_zero (I : Nat → Prop) (w : World) : ∀ t : T, rep I w t t.dflt t.zc := by
 intro t
 induction t with
 | bool => rw [rep]; rfl
 | int k => rw [rep]; refine ⟨rfl, ?_, ?_⟩ <;> cases k <;> decide
 | str => rw [rep]; exact ⟨rfl, by decide⟩
 | con n => rw [rep]; rfl
 | sl t ih => rw [rep]; exact ⟨none, 0, rfl, Nat.le_refl _, by decide, fun h => absurd rfl h⟩
 | st fs ih => rw [rep]; exact ih
 | one t ih => rw [rep]; exact ih
 | cons t ts ih1 ih2 => rw [rep]; exact ⟨_, _, rfl, ih1, ih2⟩
def tyOk (P : Program) (X : Ctx) (tid : Nat) : Bool :=
 match X.ty tid with
 | some t =>
   (match P.underlying tid with | some d => shapeOk X tid d t | none => false) &&
   (match P.info? tid with | some i => i.size == t.size && decide (i.bytes ≤ 65536) && (match i.zero with | some z => zeroOk t z | none => false) | none => false)
 | none => true
def scOk (P : Program) (X : Ctx) (tid : Nat) : Bool :=
 !X.sc tid || ((match P.underlying tid with | some (.struct _) | some (.array _ _) | none => false | _ => true) && (match P.info? tid with | some i => i.size == 1 | none => false))
def arOk (P : Program) (X : Ctx) (tid : Nat) : Bool := !(X.ty tid).isSome || X.ar tid == (match P.underlying tid with | some (.array _ _) => true | _ => false)
def fnOk (P : Program) (X : Ctx) (f : Nat) : Bool := !X.fn f || (match P.funcs[f]? with | some fn => !(fn.name == "runtime.NumGoroutine") && !fn.body.isNone | none => false)
def eqOkAt (P : Program) (X : Ctx) : Nat → Nat → Bool
 | 0, _ => false
 | d + 1, tid => (X.ty tid).isSome && match P.underlying tid with
   | some .bool | some (.int _) => true
   | some (.struct fs) => fs.all fun f => f.name != "_" && eqOkAt P X d f.type
   | _ => false
def eqOk (P : Program) (X : Ctx) (tid : Nat) : Bool := !X.eq tid || (eqOkAt P X 6 tid && P.keyTypeAt 6 tid && !(P.eqGuardType P.depth tid) && match P.underlying tid with | some (.struct _) => true | _ => false)
structure TyOk (P : Program) (X : Ctx) : Prop where
 eq : ∀ tid, eqOk P X tid = true
 fn : ∀ f, fnOk P X f = true
 ty : ∀ tid, tyOk P X tid = true
 sc : ∀ tid, scOk P X tid = true
 ar : ∀ tid, arOk P X tid = true
 mixed : P.follows .mixedOrders = true
section
variable {P : Program} {X : Ctx}
theorem TyOk.und (K : TyOk P X) {tid : Nat} {t : T} (h : X.ty tid = some t) : ∃ d, P.underlying tid = some d ∧ shapeOk X tid d t = true := by
 have hk := K.ty tid
 unfold tyOk at hk
 rw [h] at hk
 simp only [Bool.and_eq_true] at hk
 cases hu : P.underlying tid with
 | none => rw [hu] at hk; cases hk.1
 | some d => rw [hu] at hk; exact ⟨d, rfl, hk.1⟩
theorem TyOk.info (K : TyOk P X) {tid : Nat} {t : T} (h : X.ty tid = some t) : ∃ i, P.info? tid = some i ∧ i.size = t.size ∧ i.bytes ≤ 65536 ∧ ∃ z, i.zero = some z ∧ z = mkVal t.isAgg t.zc := by
 have hk := K.ty tid
 unfold tyOk at hk
 rw [h] at hk
 simp only [Bool.and_eq_true] at hk
 cases hi : P.info? tid with
 | none => rw [hi] at hk; cases hk.2
 | some i =>
   rw [hi] at hk
   simp only [Bool.and_eq_true] at hk
   obtain ⟨⟨h1, h2⟩, h3⟩ := hk.2
   cases hz : i.zero with
   | none => rw [hz] at h3; cases h3
   | some z =>
     rw [hz] at h3
     exact ⟨i, rfl, by simpa using h1, by simpa using h2, z, hz, zeroOk_sound h3⟩
theorem TyOk.sc' (K : TyOk P X) {tid : Nat} (h : X.sc tid = true) : (∃ d, P.underlying tid = some d ∧ (∀ fs, d ≠ .struct fs) ∧ (∀ n e, d ≠ .array n e)) ∧ ∃ i, P.info? tid = some i ∧ i.size = 1 := by
 have hk := K.sc tid
 unfold scOk at hk
 rw [h] at hk
 simp only [Bool.not_true, Bool.false_or, Bool.and_eq_true] at hk
 obtain ⟨h1, h2⟩ := hk
 constructor
 ·cases hu : P.underlying tid with
  | none => rw [hu] at h1; cases h1
  | some d =>
    rw [hu] at h1
    refine ⟨d, rfl, fun fs hd => ?_, fun n e hd => ?_⟩ <;> subst hd <;> cases h1
 ·cases hi : P.info? tid with
  | none => rw [hi] at h2; cases h2
  | some i => rw [hi] at h2; exact ⟨i, rfl, by simpa using h2⟩
theorem shape_agg {X : Ctx} {tid : Nat} {d : TypeDesc} {t : T} (h : shapeOk X tid d t = true) : t.isAgg = (match d with | .struct _ => true | .array _ _ => true | _ => false) := by
 unfold shapeOk at h
 split at h <;> first | rfl | cases h
theorem run_isAgg (K : TyOk P X) {tid : Nat} {t : T} (h : X.ty tid = some t) (w : World) : (isAgg tid).run P w = .ok t.isAgg w := by
 obtain ⟨d, hu, hs⟩ := K.und h
 have := shape_agg hs
 unfold isAgg
 simp only [Sem.run_bind, run_underlying hu, Result.andThen_ok]
 rw [this]
 cases d <;> rfl
theorem run_sizeOf (K : TyOk P X) {tid : Nat} {t : T} (h : X.ty tid = some t) (w : World) : (sizeOf tid).run P w = .ok t.size w := by
 obtain ⟨i, hi, hs, _⟩ := K.info h
 unfold sizeOf typeInfo
 simp only [Sem.run_bind, run_program, Result.andThen_ok, hi, Sem.run_pure, hs]
theorem run_zeroValue (K : TyOk P X) {tid : Nat} {t : T} (h : X.ty tid = some t) (w : World) : (zeroValue tid).run P w = .ok (mkVal t.isAgg t.zc) w := by
 obtain ⟨i, hi, hs, _, z, hz, hzz⟩ := K.info h
 unfold zeroValue typeInfo
 simp only [Sem.run_bind, run_program, Result.andThen_ok, hi, Sem.run_pure, hz, hzz]
theorem run_isAgg_sc (K : TyOk P X) {tid : Nat} (h : X.sc tid = true) (w : World) : (isAgg tid).run P w = .ok false w := by
 obtain ⟨⟨d, hu, h1, h2⟩, _⟩ := K.sc' h
 unfold isAgg
 simp only [Sem.run_bind, run_underlying hu, Result.andThen_ok]
 cases d <;> first | rfl | (exact absurd rfl (h1 _)) | (exact absurd rfl (h2 _ _))
theorem run_sizeOf_sc (K : TyOk P X) {tid : Nat} (h : X.sc tid = true) (w : World) : (sizeOf tid).run P w = .ok 1 w := by
 obtain ⟨_, i, hi, hs⟩ := K.sc' h
 unfold sizeOf typeInfo
 simp only [Sem.run_bind, run_program, Result.andThen_ok, hi, Sem.run_pure, hs]
end
theorem addr_add (b o n : Nat) : (⟨b, o, none⟩ : Addr).add n = ⟨b, o + n, none⟩ := by
 unfold Addr.add
 split
 ·rename_i h; subst h; rfl
 ·rfl
theorem run_loadVar {P : Program} {w : World} {tid : Nat} {b o : Nat} {cs : List Value} {ag : Bool} (ha : (isAgg tid).run P w = .ok ag w) (hs : (sizeOf tid).run P w = .ok cs.length w)
 (hc : At w b o cs) (h1 : ag = false → cs.length = 1) : (loadVar tid ⟨b, o, none⟩).run P w = .ok (mkVal ag cs) w := by
 unfold loadVar
 simp only [Sem.run_bind, ha, Result.andThen_ok]
 cases ag with
 | true =>
   simp only [if_true, Sem.run_bind, hs, Result.andThen_ok]
   rw [run_loadCells_list w _ cs (fun j v hj => by rw [addr_add]; exact hc j v hj)]
   rfl
 | false =>
   have hl := h1 rfl
   match cs, hl with
   | [c], _ =>
     have := hc 0 c rfl
     simp only [Nat.add_zero] at this
     simp only [Bool.false_eq_true, if_false, run_load, this]
     rfl
end Go.Sw

namespace Go.Sw
structure Cnd where
 q : Prop
 ok : Bool
 h : ok = true → q
@[reducible] def Cnd.p (q : Prop) : Cnd := ⟨q, false, fun h => by cases h⟩
@[reducible] def dc (q : Prop) [Decidable q] : Cnd := ⟨q, decide q, of_decide_eq_true⟩
@[reducible] def cNe {α : Type} (l : List α) : Cnd := ⟨l ≠ [], !l.isEmpty, fun h e => by subst e; cases h⟩
def evInt (op : BinOp) (k : IntKind) (a b : Int) : Option (V × List Cnd) :=
 match op with
 | .add => some (.d (.int k) (k.wrap (a + b)), [])
 | .sub => some (.d (.int k) (k.wrap (a - b)), [])
 | .mul => some (.d (.int k) (k.wrap (a * b)), [])
 | .quo => some (.d (.int k) (k.wrap (a.tdiv b)), [dc (b ≠ 0)])
 | .rem => some (.d (.int k) (a.tmod b), [dc (b ≠ 0)])
 | .eql => some (.d .bool (a == b), [])
 | .neq => some (.d .bool (a != b), [])
 | .lss => some (.d .bool (decide (a < b)), [])
 | .leq => some (.d .bool (decide (a ≤ b)), [])
 | .gtr => some (.d .bool (decide (b < a)), [])
 | .geq => some (.d .bool (decide (b ≤ a)), [])
 | _ => none
def evBin (op : BinOp) (t : Option T) (x y : V) : Option (V × List Cnd) :=
 match x, y with
 | .d (.int k) a, .d (.int k') b => if k = k' then evInt op k a b else none
 | .d .bool a, .d .bool b =>
   if t = some .bool then (match op with | .eql => some (.d .bool (a == b), []) | .neq => some (.d .bool (!(a == b)), []) | _ => none) else none
 | .d .str a, .d .str b =>
   (match op with
    | .add => some (.d .str (a ++ b), [dc (((a.size + b.size : Nat) : Int) ≤ 9223372036854775807)])
    | .eql => some (.d .bool (a.toList == b.toList), [])
    | .neq => some (.d .bool (!(a.toList == b.toList)), [])
    | _ => none)
 | .d (.sl e) l, .nil =>
   if t = some (.sl e) then (match op with | .eql => some (.d .bool false, [cNe (l : List e.D)]) | .neq => some (.d .bool true, [cNe (l : List e.D)]) | _ => none) else none
 | .nil, .nil => (match t with | some (.sl _) => (match op with | .eql => some (.d .bool true, []) | .neq => some (.d .bool false, []) | _ => none) | _ => none)
 | _, _ => none
def evUn (op : UnOp) (x : V) : Option V :=
 match op, x with
 | .neg, .d (.int k) a => some (.d (.int k) (k.wrap (0 - a)))
 | .not, .d .bool b => some (.d .bool (!b))
 | _, _ => none
theorem wrap_in (k : IntKind) (n : Int) : k.min ≤ k.wrap n ∧ k.wrap n ≤ k.max := by
 cases k <;> simp only [IntKind.wrap, IntKind.min, IntKind.max, IntKind.signed, IntKind.bits] <;> simp <;> (try split) <;> omega
theorem tmod_in {k : IntKind} {a b : Int} (h1 : k.min ≤ a) (h2 : a ≤ k.max) (_hb : b ≠ 0) : k.min ≤ a.tmod b ∧ a.tmod b ≤ k.max := by
 rcases Int.le_total 0 a with ha | ha
 ·have h3 : 0 ≤ a.tmod b := Int.tmod_nonneg b ha
  have h4 : a.tmod b ≤ a := by
   have h5 := Int.natAbs_tmod a b
   have h6 : (a.tmod b).natAbs ≤ a.natAbs := by rw [h5]; exact Nat.mod_le _ _
   omega
  have h5 : k.min ≤ 0 := by cases k <;> decide
  omega
 ·have h3 : a.tmod b ≤ 0 := by
   have : 0 ≤ (-a).tmod b := Int.tmod_nonneg b (by omega)
   rw [Int.neg_tmod] at this; omega
  have h4 : a ≤ a.tmod b := by
   have h5 := Int.natAbs_tmod a b
   have h6 : (a.tmod b).natAbs ≤ a.natAbs := by rw [h5]; exact Nat.mod_le _ _
   omega
  have h5 : 0 ≤ k.max := by cases k <;> decide
  omega
def AllTrue : List Cnd → Prop
 | [] => True
 | p :: ps => p.q ∧ AllTrue ps
theorem AllTrue.dec : ∀ {cs : List Cnd}, cs.all Cnd.ok = true → AllTrue cs := by
 intro cs
 induction cs with
 | nil => intro _; trivial
 | cons c cs ih =>
   intro h
   rw [List.all_cons, Bool.and_eq_true] at h
   exact ⟨c.h h.1, ih h.2⟩
theorem AllTrue.append {a b : List Cnd} (h : AllTrue (a ++ b)) : AllTrue a ∧ AllTrue b := by
 induction a with
 | nil => exact ⟨trivial, h⟩
 | cons p ps ih => exact ⟨⟨h.1, (ih h.2).1⟩, (ih h.2).2⟩
section
variable {P : Program} {X : Ctx} {I : Nat → Prop} {ι : Nat → Loc} {w : World}
theorem repV_int {k : IntKind} {n : Int} {v : Value} (h : repV I ι w (.d (.int k) n) v) : v = .int k n ∧ k.min ≤ n ∧ n ≤ k.max := by
 obtain ⟨cs, h1, h2⟩ := h
 rw [repC, rep] at h1
 rw [h1.1] at h2
 exact ⟨h2, h1.2⟩
theorem repV_int_mk {k : IntKind} {n : Int} (h : k.min ≤ n ∧ n ≤ k.max) : repV I ι w (.d (.int k) n) (.int k n) :=
 ⟨[.int k n], by rw [repC, rep]; exact ⟨rfl, h⟩, rfl⟩
theorem repV_bool {b : Bool} {v : Value} (h : repV I ι w (.d .bool b) v) : v = .bool b := by
 obtain ⟨cs, h1, h2⟩ := h
 rw [repC, rep] at h1
 rw [h1] at h2
 exact h2
theorem repV_bool_mk (b : Bool) : repV I ι w (.d .bool b) (.bool b) := ⟨[.bool b], by rw [repC, rep], rfl⟩
theorem repV_str {s : ByteArray} {v : Value} (h : repV I ι w (.d .str s) v) : v = .string s ∧ (s.size : Int) ≤ 9223372036854775807 := by
 obtain ⟨cs, h1, h2⟩ := h
 rw [repC, rep] at h1
 rw [h1.1] at h2
 exact ⟨h2, h1.2⟩
theorem repV_str_mk {s : ByteArray} (h : (s.size : Int) ≤ 9223372036854775807) : repV I ι w (.d .str s) (.string s) := ⟨[.string s], by rw [repC, rep]; exact ⟨rfl, h⟩, rfl⟩
theorem repV_sl {t : T} {l : List t.D} {v : Value} (h : repV I ι w (.d (.sl t) l) v) : ∃ base cap, v = .slice base l.length cap ∧ l.length ≤ cap ∧ (cap : Int) ≤ 9223372036854775807 ∧
 (l ≠ [] → ∃ b o es, base = some ⟨b, o, none⟩ ∧ I b ∧ At w b o es ∧ repL (rep I w t) l es) := by
 obtain ⟨cs, h1, h2⟩ := h
 rw [repC, rep] at h1
 obtain ⟨base, cap, rfl, h3⟩ := h1
 exact ⟨base, cap, h2, h3⟩
theorem repV_nil {v : Value} (h : repV I ι w .nil v) : v = .slice none 0 0 := by
 obtain ⟨cs, h1, h2⟩ := h
 rw [repC] at h1
 rw [h1] at h2
 exact h2
theorem repV_nil_mk : repV I ι w .nil (.slice none 0 0) := ⟨[.slice none 0 0], by rw [repC], rfl⟩
theorem repV_ptr {id off : Nat} {v : Value} (h : repV I ι w (.ptr id off) v) : ∃ B n, ι id = .blk B n ∧ v = .pointer (some ⟨B, off, none⟩) := by
 obtain ⟨cs, h1, h2⟩ := h
 rw [repC] at h1
 obtain ⟨B, n, hB, rfl⟩ := h1
 exact ⟨B, n, hB, h2⟩
theorem repV_ptr_mk {id off B n : Nat} (h : ι id = .blk B n) : repV I ι w (.ptr id off) (.pointer (some ⟨B, off, none⟩)) :=
 ⟨[.pointer (some ⟨B, off, none⟩)], by rw [repC]; exact ⟨B, n, h, rfl⟩, rfl⟩
theorem repV_d {t : T} {x : t.D} {v : Value} (h : repV I ι w (.d t x) v) : ∃ cs, rep I w t x cs ∧ v = mkVal t.isAgg cs := by
 obtain ⟨cs, h1, h2⟩ := h
 rw [repC] at h1
 exact ⟨cs, h1, h2⟩
theorem repV_d_mk {t : T} {x : t.D} {cs : List Value} (h : rep I w t x cs) : repV I ι w (.d t x) (mkVal t.isAgg cs) := ⟨cs, by rw [repC]; exact h, rfl⟩
theorem run_eqGuard_int (op : BinOp) (t : TypeId) (x y : Operand) (a b : Value) (ha : ∀ cs, a ≠ .agg cs) (hn : a ≠ .nilIface) : (eqGuard op t x y a b).run P w = .ok () w := by
 cases op <;> first
  | rfl
  | (cases a <;> first | (exact absurd rfl (ha _)) | (exact absurd rfl hn) | rfl)
theorem evInt_sound {op : BinOp} {k : IntKind} {a b : Int} {v : V} {c : List Cnd} (h : evInt op k a b = some (v, c)) (hc : AllTrue c) (ha : k.min ≤ a ∧ a ≤ k.max) (t : TypeId) :
 ∃ u, (binOp op t (.int k a) (.int k b)).run P w = .ok u w ∧ repV I ι w v u := by
 cases op <;> simp only [evInt] at h <;> first
  | (cases h; done)
  | (obtain ⟨rfl, rfl⟩ := Prod.mk.inj (Option.some.inj h)
     first
      | (refine ⟨.int k _, ?_, repV_int_mk (wrap_in _ _)⟩
         first
          | (simp [binOp, Op.intArith]; done)
          | (have hb : b ≠ 0 := hc.1
             simp [binOp, Op.intDiv, hb]))
      | (have hb : b ≠ 0 := hc.1
         refine ⟨.int k _, ?_, repV_int_mk (tmod_in ha.1 ha.2 hb)⟩
         simp [binOp, Op.intDiv, hb])
      | (refine ⟨.bool _, ?_, repV_bool_mk _⟩
         simp [binOp, Op.intCmp]))
theorem run_equal_bool {t : TypeId} (K : TyOk P X) (ht : X.ty t = some .bool) (a b : Bool) : (Op.equal t (.bool a) (.bool b)).run P w = .ok (a == b) w := by
 obtain ⟨d, hd, hs⟩ := K.und ht
 have key : ∀ n, (Op.equalIn (n + 1) t (.bool a) (.bool b)).run P w = .ok (a == b) w := by
  intro n
  cases d <;> first | (cases hs; done) | simp [Op.equalIn, run_underlying hd]
 exact key 9999
theorem run_equal_slice_nil' {t : TypeId} (K : TyOk P X) {e : T} (ht : X.ty t = some (.sl e)) (base : Option Addr) (n c : Nat) : (Op.equal t (.slice base n c) (.slice none 0 0)).run P w = .ok base.isNone w := by
 obtain ⟨d, hd, hs⟩ := K.und ht
 have key : ∀ m, (Op.equalIn (m + 1) t (.slice base n c) (.slice none 0 0)).run P w = .ok base.isNone w := by
  intro m
  cases d <;> first | (cases hs; done) | (cases base <;> simp [Op.equalIn, run_underlying hd])
 exact key 9999
theorem evBin_sound (K : TyOk P X) {op : BinOp} {t : TypeId} {x y : V} {v : V} {c : List Cnd} (h : evBin op (X.ty t) x y = some (v, c)) (hc : AllTrue c) {a b : Value}
 (ha : repV I ι w x a) (hb : repV I ι w y b) (px py : Operand) :
 ∃ u, ((do eqGuard op t px py a b; binOp op t a b) : Sem Value).run P w = .ok u w ∧ repV I ι w v u := by
 unfold evBin at h
 split at h
 ·rename_i k a' k' b'
  split at h
  ·rename_i hk
   subst hk
   obtain ⟨rfl, h1⟩ := repV_int ha
   obtain ⟨rfl, h2⟩ := repV_int hb
   obtain ⟨u, hu, hr⟩ := evInt_sound (P := P) (ι := ι) (I := I) (w := w) h hc h1 t
   refine ⟨u, ?_, hr⟩
   simp only [Sem.run_bind, run_eqGuard_int op t px py (.int k a') (.int k b') (by intro cs h; cases h) (by intro h; cases h), Result.andThen_ok, hu]
  ·cases h
 ·rename_i a' b'
  split at h
  ·rename_i ht
   obtain rfl := repV_bool ha
   obtain rfl := repV_bool hb
   have he := run_equal_bool (w := w) K ht a' b'
   have hg := run_eqGuard_int (P := P) (w := w) op t px py (.bool a') (.bool b') (by intro cs h; cases h) (by intro h; cases h)
   split at h
   ·obtain ⟨rfl, rfl⟩ := Prod.mk.inj (Option.some.inj h)
    exact ⟨.bool _, by simp only [Sem.run_bind, hg, Result.andThen_ok, binOp, he, Sem.run_pure], repV_bool_mk _⟩
   ·obtain ⟨rfl, rfl⟩ := Prod.mk.inj (Option.some.inj h)
    exact ⟨.bool _, by simp only [Sem.run_bind, hg, Result.andThen_ok, binOp, he, Sem.run_pure], repV_bool_mk _⟩
   ·cases h
  ·cases h
 ·rename_i a' b'
  obtain ⟨rfl, h1⟩ := repV_str ha
  obtain ⟨rfl, h2⟩ := repV_str hb
  have hg := run_eqGuard_int (P := P) (w := w) op t px py (.string a') (.string b') (by intro cs h; cases h) (by intro h; cases h)
  split at h
  ·obtain ⟨rfl, rfl⟩ := Prod.mk.inj (Option.some.inj h)
   have hs : ((a'.size + b'.size : Nat) : Int) ≤ 9223372036854775807 := hc.1
   have hr := run_string_add_sum (P := P) w a' b' (by omega)
   exact ⟨.string _, by simp only [Sem.run_bind, hg, Result.andThen_ok, binOp, hr], repV_str_mk (by rw [ByteArray.size_append]; exact hs)⟩
  ·obtain ⟨rfl, rfl⟩ := Prod.mk.inj (Option.some.inj h)
   exact ⟨.bool _, by simp only [Sem.run_bind, hg, Result.andThen_ok, binOp, Op.stringOp, Sem.run_pure], repV_bool_mk _⟩
  ·obtain ⟨rfl, rfl⟩ := Prod.mk.inj (Option.some.inj h)
   exact ⟨.bool _, by simp only [Sem.run_bind, hg, Result.andThen_ok, binOp, Op.stringOp, Sem.run_pure], repV_bool_mk _⟩
  ·cases h
 ·rename_i e l
  split at h
  ·rename_i ht
   obtain ⟨base, cap, rfl, h1, h2, h3⟩ := repV_sl ha
   obtain rfl := repV_nil hb
   have he := run_equal_slice_nil' (w := w) K ht base (List.length l) cap
   have hg := run_eqGuard_int (P := P) (w := w) op t px py (.slice base (List.length l) cap) (.slice none 0 0) (by intro cs h; cases h) (by intro h; cases h)
   split at h
   ·obtain ⟨rfl, rfl⟩ := Prod.mk.inj (Option.some.inj h)
    obtain ⟨b, o, es, rfl, _⟩ := h3 hc.1
    exact ⟨.bool _, by simp only [Sem.run_bind, hg, Result.andThen_ok, binOp, he, Sem.run_pure]; rfl, repV_bool_mk _⟩
   ·obtain ⟨rfl, rfl⟩ := Prod.mk.inj (Option.some.inj h)
    obtain ⟨b, o, es, rfl, _⟩ := h3 hc.1
    exact ⟨.bool _, by simp only [Sem.run_bind, hg, Result.andThen_ok, binOp, he, Sem.run_pure]; rfl, repV_bool_mk _⟩
   ·cases h
  ·cases h
 ·split at h
  ·rename_i e ht
   obtain rfl := repV_nil ha
   obtain rfl := repV_nil hb
   have he := run_equal_slice_nil' (w := w) K ht none 0 0
   have hg := run_eqGuard_int (P := P) (w := w) op t px py (.slice none 0 0) (.slice none 0 0) (by intro cs h; cases h) (by intro h; cases h)
   split at h
   ·obtain ⟨rfl, rfl⟩ := Prod.mk.inj (Option.some.inj h)
    exact ⟨.bool _, by simp only [Sem.run_bind, hg, Result.andThen_ok, binOp, he, Sem.run_pure]; rfl, repV_bool_mk _⟩
   ·obtain ⟨rfl, rfl⟩ := Prod.mk.inj (Option.some.inj h)
    exact ⟨.bool _, by simp only [Sem.run_bind, hg, Result.andThen_ok, binOp, he, Sem.run_pure]; rfl, repV_bool_mk _⟩
   ·cases h
  ·cases h
 ·cases h
theorem evUn_sound {op : UnOp} {x v : V} (h : evUn op x = some v) {a : Value} (ha : repV I ι w x a) : ∃ u, (Op.unary op a).run P w = .ok u w ∧ repV I ι w v u := by
 unfold evUn at h
 split at h
 ·obtain rfl := Option.some.inj h
  obtain ⟨rfl, _⟩ := repV_int ha
  exact ⟨.int _ _, by simp [Op.unary, Op.intArith], repV_int_mk (wrap_in _ _)⟩
 ·obtain rfl := Option.some.inj h
  obtain rfl := repV_bool ha
  exact ⟨.bool _, by simp [Op.unary], repV_bool_mk _⟩
 ·cases h
end
end Go.Sw

namespace Go.Sw
inductive Hint where
 | no
 | b (β : Bool)
 | own
 | part
 | call (r : V)
 | callO (el : Nat) (te : T) (l : List te.D)
 | callS (σi : List (Nat × E)) (args : List V) (ρ : List (Nat × Nat)) (r : V) (σo : List (Nat × E))
structure Out where
 v : V
 kill : List Nat
 upd : List (Nat × E)
 c : List Cnd
def Out.val (v : V) (c : List Cnd) : Option Out := some ⟨v, [], [], c⟩
def nilD : (t : T) → Option t.D
 | .sl _ => some []
 | _ => none
def toD (t : T) (v : V) : Option t.D :=
 match v with
 | .d _ x => T.cast t x
 | .nil => nilD t
 | _ => none
def evConst (v : Value) : V :=
 match v with
 | .bool b => .d .bool b
 | .int k n => if k.min ≤ n ∧ n ≤ k.max then .d (.int k) n else .un
 | .string s => if (s.size : Int) ≤ 9223372036854775807 then .d .str s else .un
 | .slice none 0 0 => .nil
 | .pointer none => .d (.con 0) ()
 | .nilIface => .d (.con 1) ()
 | _ => .un
def look (γ : Nat → V) : Operand → V
 | .tmp t => γ t
 | .const v => evConst v
 | .global _ => .un
 | .func f => .fn f .vnil .vnil
def buildD : (fs : T) → Nat → List (Nat × V) → Option fs.D
 | .one t, i, ps => match ps with
   | [] => some t.dflt
   | [p] => if p.1 = i then toD t p.2 else none
   | _ => none
 | .cons t ts, i, ps => match ps with
   | [] => (buildD ts (i + 1) []).map fun y => (t.dflt, y)
   | p :: r => if p.1 = i then (toD t p.2).bind fun x => (buildD ts (i + 1) r).map fun y => (x, y) else (buildD ts (i + 1) (p :: r)).map fun y => (t.dflt, y)
 | _, _, _ => none
def buildL (t : T) : Nat → List (Nat × V) → Option (List t.D)
 | _, [] => some []
 | i, p :: r => if p.1 = i then (toD t p.2).bind fun x => (buildL t (i + 1) r).map fun y => x :: y else none
def T.isSl : T → Bool
 | .sl _ => true
 | _ => false
def partOf (t : T) (v : V) : Option V :=
 match v with
 | .d _ x => (T.cast t x).map (V.d t)
 | v => if v.single = true ∧ t.isSl = true then some v else none
def zeroPart (t : T) : V := if t.isSl = true then .nil else .d t t.dflt
def buildP : T → Nat → List (Nat × V) → Option V
 | .one t, i, ps => match ps with
   | [] => some (.vcons (zeroPart t) .vnil)
   | [p] => if p.1 = i then (partOf t p.2).map fun x => .vcons x .vnil else none
   | _ => none
 | .cons t ts, i, ps => match ps with
   | [] => (buildP ts (i + 1) []).map fun y => .vcons (zeroPart t) y
   | p :: r => if p.1 = i then (partOf t p.2).bind fun x => (buildP ts (i + 1) r).map fun y => .vcons x y else (buildP ts (i + 1) (p :: r)).map fun y => .vcons (zeroPart t) y
 | _, _, _ => none
def T.foff : T → Nat → Option (Nat × T)
 | .one t, 0 => some (0, t)
 | .cons t _, 0 => some (0, t)
 | .cons t ts, i + 1 => (T.foff ts i).map fun p => (t.size + p.1, p.2)
 | _, _ => none
def T.fld : (fs : T) → fs.D → Nat → Option V
 | .one t, x, 0 => some (.d t x)
 | .cons t _, x, 0 => some (.d t x.1)
 | .cons _ ts, x, i + 1 => T.fld ts x.2 i
 | _, _, _ => none
def T.fldPt : (fs : T) → fs.D → Nat → Option V
 | .one t, x, 0 => some (.pt t x)
 | .cons t _, x, 0 => some (.pt t x.1)
 | .cons _ ts, x, i + 1 => T.fldPt ts x.2 i
 | _, _, _ => none
def vecOf (σ : Nat → Option E) (k : Nat) (t : T) : Option (Nat × List t.D) :=
 match σ k with
 | some (.vec e _ l) => (T.cast (a := .sl _) (.sl t) l).map fun l => (e, l)
 | _ => none
def wholeBox (want : Option T) (c : V) (off : Nat) : Option V :=
 match want with
 | some τ => if off = 0 ∧ τ.isAgg = true ∧ c.csize = τ.size then some (.agg c) else none
 | none => none
def evLoad (X : Ctx) (σ : Nat → Option E) (t : TypeId) (a : V) : Option Out :=
 match a with
 | .ptr k off =>
   (match σ k with
    | some (.box _ c) => if (X.ty t).isSome = true ∨ X.sc t = true then ((V.rd (X.ty t) c off).or (wholeBox (X.ty t) c off)).bind fun v => Out.val v [] else none
    | _ => none)
 | .pt u x => (X.ty t).bind fun τ => (T.rd τ u x 0).bind fun y => Out.val (.d τ y) []
 | .elt k u i off => (X.ty t).bind fun τ => (vecOf σ k u).bind fun l => (T.rd τ u (l.2.getD i u.dflt) off).bind fun y => Out.val (.d τ y) [dc (i < l.2.length)]
 | _ => none
def V.wrW (v c : V) (off : Nat) : Option V :=
 match V.wr v c off with
 | some c' => some c'
 | none => match v with
   | .agg l => if off = 0 ∧ l.csize = c.csize then some l else none
   | .d t x => if off = 0 ∧ t.size = c.csize then some (.vcons (.d t x) .vnil) else none
   | _ => none
theorem V.wrW_sound {I : Nat → Prop} {ι : Nat → Loc} {w : World} {v : V} {ev : List Value} (hv : repC I ι w v ev) {x : V} {off : Nat} {z : V} {cs : List Value} (h : V.wrW v x off = some z) (hx : repC I ι w x cs) :
 ∃ pre es post, cs = pre ++ es ++ post ∧ pre.length = off ∧ es.length = ev.length ∧ repC I ι w z (pre ++ ev ++ post) := by
 unfold V.wrW at h
 split at h
 ·rename_i c' hc
  obtain rfl := Option.some.inj h
  exact V.wr_sound hv hc hx
 ·split at h
  ·rename_i l _
   split at h
   ·rename_i hcond
    obtain rfl := Option.some.inj h
    rw [repC] at hv
    exact ⟨[], cs, [], by simp, by simp [hcond.1], by rw [repC_length hv, repC_length hx, hcond.2], by simpa using hv⟩
   ·cases h
  ·rename_i t y _
   split at h
   ·rename_i hcond
    obtain rfl := Option.some.inj h
    have hl : ev.length = t.size := by rw [repC] at hv; exact rep_length hv
    exact ⟨[], cs, [], by simp, by simp [hcond.1], by rw [hl, repC_length hx, hcond.2], by rw [repC]; exact ⟨ev, [], by simp, hv, by rw [repC]⟩⟩
   ·cases h
  ·cases h
def okStore : V → Bool
 | .un | .tup _ | .vnil | .vcons _ _ => false
 | _ => true
def szOk (X : Ctx) (t : TypeId) (n : Nat) : Bool := match X.ty t with | some τ => n == τ.size | none => X.sc t && n == 1
def evStore (X : Ctx) (σ : Nat → Option E) (t : TypeId) (a v : V) : Option Out :=
 match a with
 | .ptr k off =>
   (match σ k with
    | some (.box bt c) =>
      if okStore v = true ∧ v.isAgg = false ∧ v.csize = 1 ∨ okStore v = true ∧ v.isAgg = true then
       if szOk X t v.csize = true then
        (V.wrW v c off).bind fun c' => some ⟨.un, [], [(k, .box bt c')], []⟩
       else none
      else none
    | _ => none)
 | .elt k u i off =>
   (match v with
    | .d τ y => if X.ty t = some τ then (vecOf σ k u).bind fun l => (T.wr τ y u (l.2.getD i u.dflt) off).bind fun z => some ⟨.un, [], [(k, .vec l.1 u (l.2.set i z))], [dc (i < l.2.length)]⟩ else none
    | _ => none)
 | _ => none
end Go.Sw

namespace Go.Sw
theorem At.of_split {w : World} {b o : Nat} {pre es post : List Value} (h : At w b o (pre ++ es ++ post)) : At w b (o + pre.length) es := (h.left).right
theorem At.of_cells {w : World} {b : Nat} {arr : Array Value} {e : TypeId} {fr : Nat × Nat} (h : w.heap[b]? = some (.cells arr e fr)) : At w b 0 arr.toList := by
 intro j v hj
 simp only [World.cell?, h, Nat.zero_add]
 simpa using hj
theorem shape_nonagg {X : Ctx} {tid : Nat} {d : TypeDesc} {t : T} (h : shapeOk X tid d t = true) (ha : t.isAgg = false) : t.size = 1 := by
 unfold shapeOk at h
 split at h <;> first | rfl | (cases ha; done) | (cases h; done)
section
variable {P : Program} {X : Ctx} {F : Nat → Prop} {σ : Nat → Option E} {ι : Nat → Loc} {w : World}
theorem TyOk.nonagg (K : TyOk P X) {tid : Nat} {t : T} (h : X.ty tid = some t) (ha : t.isAgg = false) : t.size = 1 := by
 obtain ⟨d, _, hs⟩ := K.und h
 exact shape_nonagg hs ha
theorem run_szOk (K : TyOk P X) {t : TypeId} {n : Nat} (h : szOk X t n = true) (w : World) : (sizeOf t).run P w = .ok n w := by
 unfold szOk at h
 cases hx : X.ty t with
 | none =>
   rw [hx] at h
   simp only [Bool.and_eq_true, beq_iff_eq] at h
   rw [h.2]
   exact run_sizeOf_sc K h.1 w
 | some τ =>
   rw [hx] at h
   rw [beq_iff_eq.1 h]
   exact run_sizeOf K hx w
theorem vecOf_some {σ : Nat → Option E} {k : Nat} {t : T} {e : Nat} {l : List t.D} (h : vecOf σ k t = some (e, l)) : σ k = some (.vec e t l) := by
 unfold vecOf at h
 split at h
 ·rename_i e' t' l' hs
  cases hc : T.cast (a := .sl t') (.sl t) l' with
  | none => rw [hc] at h; cases h
  | some l2 =>
    rw [hc] at h
    obtain ⟨rfl, rfl⟩ := Prod.mk.inj (Option.some.inj h)
    obtain ⟨he, hl⟩ := T.cast_some hc
    injection he with he
    subst he
    subst hl
    exact hs
 ·cases h
theorem repL_getD {α : Type} {R : α → List Value → Prop} {l : List α} {cs : List Value} (h : repL R l cs) {i : Nat} (hi : i < l.length) (d : α) :
 ∃ c1 c2 c3, cs = c1 ++ c2 ++ c3 ∧ repL R (l.take i) c1 ∧ R (l.getD i d) c2 ∧ repL R (l.drop (i + 1)) c3 := by
 have : l.getD i d = l[i] := by simp [List.getD, hi]
 rw [this]
 exact repL_at h hi
theorem HoldsE.box (H : HoldsE F σ ι w) {k bt : Nat} {c : V} (h : σ k = some (.box bt c)) {B n : Nat} (hB : ι k = .blk B n) :
 ∃ arr, w.heap[B]? = some (.cells arr bt (0, 0)) ∧ repC (Imm F ι w) ι w c arr.toList := by
 have := H.ents k _ h
 rw [hB] at this
 exact this
theorem HoldsE.vec (H : HoldsE F σ ι w) {k : Nat} {e : Nat} {t : T} {l : List t.D} (h : σ k = some (.vec e t l)) {B n : Nat} (hB : ι k = .blk B n) :
 l.length = n ∧ ∃ arr es, w.heap[B]? = some (.cells arr e (0, 0)) ∧ 0 < t.size ∧ At w B 0 es ∧ repL (rep (Imm F ι w) w t) l es := by
 have := H.ents k _ h
 rw [hB] at this
 exact this
theorem evLoad_sound (K : TyOk P X) (H : HoldsE F σ ι w) {t : TypeId} {a : V} {o : Out} (h : evLoad X σ t a = some o) (hc : AllTrue o.c) {va : Value} (ha : repV (Imm F ι w) ι w a va) :
 o.kill = [] ∧ o.upd = [] ∧ ∃ u, (Instr.loadAt t va).run P w = .ok u w ∧ repV (Imm F ι w) ι w o.v u := by
 have data : ∀ {τ : T} {y : τ.D} {b off : Nat} {es : List Value}, X.ty t = some τ → At w b off es → rep (Imm F ι w) w τ y es →
  ∃ u, (Instr.loadAt t (.pointer (some ⟨b, off, none⟩))).run P w = .ok u w ∧ repV (Imm F ι w) ι w (.d τ y) u := by
  intro τ y b off es ht hA hr
  have hl := rep_length hr
  refine ⟨mkVal τ.isAgg es, ?_, repV_d_mk hr⟩
  unfold Instr.loadAt Instr.sureAddr
  simp only [Sem.run_bind, Sem.run_pure, Result.andThen_ok]
  exact run_loadVar (run_isAgg K ht w) (by rw [hl]; exact run_sizeOf K ht w) hA (fun hag => by rw [hl]; exact K.nonagg ht hag)
 unfold evLoad at h
 split at h
 ·rename_i k off
  split at h
  ·rename_i c hs
   split at h
   ·rename_i hty
    cases hv : V.rd (X.ty t) c off with
    | none =>
      rw [hv] at h
      cases hw : wholeBox (X.ty t) c off with
      | none => rw [hw] at h; cases h
      | some v =>
        rw [hw] at h
        obtain rfl := Option.some.inj h
        unfold wholeBox at hw
        split at hw
        ·rename_i τ hτ
         split at hw
         ·rename_i hcond
          obtain ⟨rfl, hag, hsz⟩ := hcond
          obtain rfl := Option.some.inj hw
          refine ⟨rfl, rfl, ?_⟩
          obtain ⟨B, n, hB, rfl⟩ := repV_ptr ha
          obtain ⟨arr, hh, hr⟩ := H.box hs hB
          have hl := repC_length hr
          have hA : At w B 0 arr.toList := At.of_cells hh
          refine ⟨mkVal true arr.toList, ?_, ⟨arr.toList, by rw [repC]; exact hr, rfl⟩⟩
          unfold Instr.loadAt Instr.sureAddr
          simp only [Sem.run_bind, Sem.run_pure, Result.andThen_ok]
          have h1 := run_isAgg K hτ w
          rw [hag] at h1
          exact run_loadVar h1 (by rw [hl, hsz]; exact run_sizeOf K hτ w) hA (fun h => by cases h)
         ·cases hw
        ·cases hw
    | some v =>
      rw [hv] at h
      replace h : (some v).bind (fun v => Out.val v []) = some o := h
      rw [Option.bind_some] at h
      obtain rfl := Option.some.inj h
      refine ⟨rfl, rfl, ?_⟩
      obtain ⟨B, n, hB, rfl⟩ := repV_ptr ha
      obtain ⟨arr, hh, hr⟩ := H.box hs hB
      obtain ⟨pre, es, post, heq, hp, he, hd⟩ := V.rd_sound hv hr
      have hA : At w B off es := by
       have := At.of_cells hh
       rw [heq] at this
       have := this.of_split
       rwa [Nat.zero_add, hp] at this
      rcases hd with ⟨τ, z, hτ, rfl⟩ | ⟨hsg, hna⟩
      ·rw [repC] at he
       exact data hτ hA he
      ·have hl := repC_length he
       have hcs : v.csize = 1 ∧ v.isAgg = false := by cases v <;> first | (cases hsg; done) | exact ⟨rfl, rfl⟩
       have hrun : (isAgg t).run P w = .ok false w ∧ (sizeOf t).run P w = .ok 1 w := by
        cases hx : X.ty t with
        | none =>
          rw [hx] at hty
          have hsc : X.sc t = true := by rcases hty with h | h; cases h; exact h
          exact ⟨run_isAgg_sc K hsc w, run_sizeOf_sc K hsc w⟩
        | some τ =>
          rw [hx] at hna
          have hag : τ.isAgg = false := by simpa using hna
          have h1 := run_isAgg K hx w
          have h2 := run_sizeOf K hx w
          rw [hag] at h1
          rw [K.nonagg hx hag] at h2
          exact ⟨h1, h2⟩
       have hv' : repV (Imm F ι w) ι w v (mkVal v.isAgg es) := by
        cases v <;> first | (cases hsg; done) | exact ⟨es, he, rfl⟩
       refine ⟨mkVal v.isAgg es, ?_, hv'⟩
       unfold Instr.loadAt Instr.sureAddr
       simp only [Sem.run_bind, Sem.run_pure, Result.andThen_ok]
       rw [hcs.2]
       exact run_loadVar hrun.1 (by rw [hl, hcs.1]; exact hrun.2) hA (fun _ => by rw [hl, hcs.1])
   ·cases h
  ·cases h
 ·rename_i u x
  cases hx : X.ty t with
  | none => rw [hx] at h; cases h
  | some τ =>
    rw [hx, Option.bind_some] at h
    cases hy : T.rd τ u x 0 with
    | none => rw [hy] at h; cases h
    | some y =>
      rw [hy, Option.bind_some] at h
      obtain rfl := Option.some.inj h
      refine ⟨rfl, rfl, ?_⟩
      obtain ⟨cs, h1, h2⟩ := ha
      rw [repC] at h1
      obtain ⟨b, off, es, rfl, hI, hA, hr⟩ := h1
      obtain ⟨pre, es', post, rfl, hp, he⟩ := T.rd_sound hy hr
      have hA' := hA.of_split
      rw [hp, Nat.add_zero] at hA'
      subst h2
      exact data hx hA' he
 ·rename_i k u i off
  cases hx : X.ty t with
  | none => rw [hx] at h; cases h
  | some τ =>
    rw [hx, Option.bind_some] at h
    cases hl : vecOf σ k u with
    | none => rw [hl] at h; cases h
    | some p =>
      obtain ⟨e, l⟩ := p
      rw [hl, Option.bind_some] at h
      cases hy : T.rd τ u (l.getD i u.dflt) off with
      | none => rw [hy] at h; cases h
      | some y =>
        rw [hy, Option.bind_some] at h
        obtain rfl := Option.some.inj h
        refine ⟨rfl, rfl, ?_⟩
        obtain ⟨cs, h1, h2⟩ := ha
        rw [repC] at h1
        obtain ⟨B, n, hB, rfl⟩ := h1
        obtain ⟨hn, arr, es, hh, hsz, hA, hr⟩ := H.vec (vecOf_some hl) hB
        obtain ⟨c1, c2, c3, rfl, hc1, hc2, hc3⟩ := repL_getD hr hc.1 u.dflt
        obtain ⟨pre, es', post, rfl, hp, he⟩ := T.rd_sound hy hc2
        have hi : i < l.length := hc.1
        have hl1 : c1.length = i * u.size := by
         rw [repL_length (fun _ _ => rep_length) hc1]
         congr 1
         simp only [List.length_take]
         omega
        have hA' := (hA.of_split).of_split
        rw [hl1, hp, Nat.zero_add] at hA'
        subst h2
        exact data hx hA' he
 ·cases h
theorem run_storeVar {tid : Nat} {B off : Nat} {arr : Array Value} {e : TypeId} {pre es post : List Value} {v : Value} (hh : w.heap[B]? = some (.cells arr e (0, 0))) (heq : arr.toList = pre ++ es ++ post)
 (hp : pre.length = off) (hl : es.length = v.cells.size) (hs : (sizeOf tid).run P w = .ok v.cells.size w) (h1 : ∀ c ∈ v.cells.toList, one c) :
 (storeVar tid ⟨B, off, none⟩ v).run P w = .ok () (w.setRow B (pre ++ v.cells.toList ++ post).toArray) := by
 have hsz : arr.size = pre.length + es.length + post.length := by
  have := congrArg List.length heq
  simp at this
  omega
 have ht : arr.toList.take off = pre := by rw [heq, List.append_assoc, ← hp]; exact List.take_left
 have hdr : arr.toList.drop (off + v.cells.toList.length) = post := by
  rw [heq]
  have : off + v.cells.toList.length = (pre ++ es).length := by simp [hp, hl]
  rw [this]
  exact List.drop_left
 have hone : ∀ c ∈ v.cells.toList, c.oneCell' = true := by
  intro c hc
  have := h1 c hc
  cases c <;> first | rfl | exact this.elim
 have hr := run_storeCells_at P B off e v.cells.toList 0 arr w hh (by simp; omega) hone
 simp only [Nat.add_zero] at hr
 rw [ht, hdr] at hr
 unfold storeVar
 simp only [Sem.run_bind, hs, Result.andThen_ok, ne_eq, not_true, if_false]
 exact hr
theorem blkSize_eq {w : World} {B : Nat} {arr : Array Value} {e : TypeId} {fr : Nat × Nat} (h : w.heap[B]? = some (.cells arr e fr)) : blkSize w B = arr.size := by
 unfold blkSize; rw [h]
theorem evStore_sound (K : TyOk P X) (H : HoldsE F σ ι w) {t : TypeId} {a v : V} {o : Out} (h : evStore X σ t a v = some o) (hc : AllTrue o.c) {va vv : Value}
 (ha : repV (Imm F ι w) ι w a va) (hv : repV (Imm F ι w) ι w v vv) :
 o.v = .un ∧ o.kill = [] ∧ ∃ k e w', o.upd = [(k, e)] ∧ (Instr.storeAt t va vv).run P w = .ok () w' ∧ Turn F none' ι w (updE σ k (some e)) ι w' := by
 unfold evStore at h
 split at h
 ·rename_i k off
  split at h
  ·rename_i bt c hs
   split at h
   ·rename_i hok
    split at h
    ·rename_i hty
     cases hz : V.wrW v c off with
     | none => rw [hz] at h; cases h
     | some z =>
       rw [hz, Option.bind_some] at h
       obtain rfl := Option.some.inj h
       refine ⟨rfl, rfl, k, .box bt z, ?_⟩
       obtain ⟨B, n, hB, rfl⟩ := repV_ptr ha
       obtain ⟨arr, hh, hr⟩ := H.box hs hB
       have hv' : ∃ cs, repC (Imm F ι w) ι w v cs ∧ vv = mkVal v.isAgg cs := by
        rcases hok with ⟨hok, _⟩ | ⟨hok, _⟩ <;> (cases v <;> first | (cases hok; done) | exact hv)
       obtain ⟨cs, hcs, rfl⟩ := hv'
       have hcells : (mkVal v.isAgg cs).cells = cs.toArray := mkVal_cells hcs (by rcases hok with ⟨_, h⟩ | ⟨_, h⟩; exact .inr h.2; exact .inl h)
       obtain ⟨pre, es, post, heq, hp, hel, hr'⟩ := V.wrW_sound hcs hz hr
       have hsize : (sizeOf t).run P w = .ok v.csize w := run_szOk K hty w
       have hl := repC_length hcs
       have hrun := run_storeVar (P := P) (tid := t) (v := mkVal v.isAgg cs) hh heq hp (by rw [hcells]; simpa using hel) (by rw [hcells]; simpa [hl] using hsize)
        (by rw [hcells]; simpa using repC_one hcs)
       rw [hcells] at hrun
       refine ⟨w.setRow B (pre ++ cs ++ post).toArray, rfl, ?_, ?_⟩
       ·unfold Instr.storeAt Instr.sureAddr
        simp only [Sem.run_bind, Sem.run_pure, Result.andThen_ok]
        exact hrun
       ·have hnew := setRow_heap w B arr (pre ++ cs ++ post).toArray bt (0, 0) hh
        refine Turn.write H hB (by simp) (fun b hb => setRow_other w B b _ hb) ?_ rfl rfl rfl (.box bt z) (fun hst hsm => ⟨_, hnew, repC_same hst hsm hr'⟩)
        rw [blkSize_eq hnew, blkSize_eq hh]
        have := congrArg List.length heq
        simp at this ⊢
        omega
    ·cases h
   ·cases h
  ·cases h
 ·rename_i k u i off
  split at h
  ·rename_i τ y
   split at h
   ·rename_i hx
    cases hl : vecOf σ k u with
    | none => rw [hl] at h; cases h
    | some p =>
      obtain ⟨e, l⟩ := p
      rw [hl, Option.bind_some] at h
      cases hz : T.wr τ y u (l.getD i u.dflt) off with
      | none => rw [hz] at h; cases h
      | some z =>
        rw [hz, Option.bind_some] at h
        obtain rfl := Option.some.inj h
        refine ⟨rfl, rfl, k, .vec e u (l.set i z), ?_⟩
        have hi : i < l.length := hc.1
        obtain ⟨cs, h1, h2⟩ := ha
        rw [repC] at h1
        obtain ⟨B, n, hB, rfl⟩ := h1
        subst h2
        obtain ⟨hn, arr, es, hh, hsz, hA, hr⟩ := H.vec (vecOf_some hl) hB
        obtain ⟨c1, c2, c3, rfl, hc1, hc2, hc3⟩ := repL_getD hr hi u.dflt
        obtain ⟨ys, hys, rfl⟩ := repV_d hv
        obtain ⟨pre, es', post, rfl, hp, hel, he⟩ := T.wr_sound hys hz hc2
        have hl1 : c1.length = i * u.size := by
         rw [repL_length (fun _ _ => rep_length) hc1]
         congr 1
         simp only [List.length_take]
         omega
        have hpre : ∃ rest, arr.toList = c1 ++ (pre ++ es' ++ post) ++ c3 ++ rest := by
         refine ⟨arr.toList.drop (c1 ++ (pre ++ es' ++ post) ++ c3).length, ?_⟩
         have : arr.toList.take (c1 ++ (pre ++ es' ++ post) ++ c3).length = c1 ++ (pre ++ es' ++ post) ++ c3 := by
          apply List.ext_getElem?
          intro j
          rw [List.getElem?_take]
          split
          ·rename_i hj
           have := hA j _ (List.getElem?_eq_getElem hj)
           simp only [World.cell?, hh, Nat.zero_add] at this
           rw [List.getElem?_eq_getElem hj]
           simpa using this
          ·rename_i hj
           rw [List.getElem?_eq_none (by omega)]
         conv => lhs; rw [← List.take_append_drop (c1 ++ (pre ++ es' ++ post) ++ c3).length arr.toList, this]
        obtain ⟨rest, hrest⟩ := hpre
        have hcells : (mkVal τ.isAgg ys).cells = ys.toArray := by
         have := mkVal_cells (I := Imm F ι w) (ι := ι) (w := w) (x := .d τ y) (cs := ys) (by rw [repC]; exact hys) (by
          cases hag : τ.isAgg with
          | true => exact .inl hag
          | false => exact .inr (K.nonagg hx hag))
         exact this
        have hsize := run_sizeOf K hx w
        have hrun := run_storeVar (P := P) (tid := t) (v := mkVal τ.isAgg ys) (pre := c1 ++ pre) (es := es') (post := post ++ c3 ++ rest) (off := i * u.size + off) hh (by rw [hrest]; simp) (by simp [hl1, hp])
         (by rw [hcells]; simpa using hel) (by rw [hcells]; simpa [rep_length hys] using hsize) (by rw [hcells]; simpa using rep_one hys)
        rw [hcells] at hrun
        refine ⟨w.setRow B ((c1 ++ pre) ++ ys ++ (post ++ c3 ++ rest)).toArray, rfl, ?_, ?_⟩
        ·unfold Instr.storeAt Instr.sureAddr
         simp only [Sem.run_bind, Sem.run_pure, Result.andThen_ok]
         exact hrun
        ·have hnew := setRow_heap w B arr ((c1 ++ pre) ++ ys ++ (post ++ c3 ++ rest)).toArray e (0, 0) hh
         refine Turn.write H hB (by simp) (fun b hb => setRow_other w B b _ hb) ?_ rfl rfl rfl (.vec e u (l.set i z)) (fun hst hsm => ⟨by rw [List.length_set]; exact hn, _, c1 ++ (pre ++ ys ++ post) ++ c3, hnew, hsz, ?_, ?_⟩)
         ·rw [blkSize_eq hnew, blkSize_eq hh]
          have := congrArg List.length hrest
          simp at this ⊢
          omega
         ·have := At.of_cells hnew
          have e1 : ((c1 ++ pre) ++ ys ++ (post ++ c3 ++ rest)).toArray.toList = (c1 ++ (pre ++ ys ++ post) ++ c3) ++ rest := by simp
          rw [e1] at this
          exact this.left
         ·have e1 : l.set i z = l.take i ++ (z :: l.drop (i + 1)) := List.set_eq_take_append_cons_drop.trans (if_pos hi)
          have key := repL_append (repL_mono (fun _ _ => rep_stay hst) hc1) (m := z :: l.drop (i + 1)) (ds := (pre ++ ys ++ post) ++ c3) ⟨pre ++ ys ++ post, c3, rfl, rep_stay hst he, repL_mono (fun _ _ => rep_stay hst) hc3⟩
          rw [e1]
          simpa only [List.append_assoc] using key
   ·cases h
  ·cases h
 ·cases h
end
end Go.Sw

namespace Go.Sw
theorem foldl_set : ∀ (vs : List Value) (k o : Nat) (cells : Array Value) (pre seg post : List Value), cells.toList = pre ++ seg ++ post → pre.length = o + k → seg.length = vs.length →
 ((vs.zipIdx k).foldl (fun cs (p : Value × Nat) => cs.setIfInBounds (o + p.2) p.1) cells).toList = pre ++ vs ++ post := by
 intro vs
 induction vs with
 | nil =>
   intro k o cells pre seg post h hp hs
   have : seg = [] := List.eq_nil_of_length_eq_zero (by simpa using hs)
   subst this
   simpa using h
 | cons v vs ih =>
   intro k o cells pre seg post h hp hs
   match seg, hs with
   | s :: seg, hs =>
     rw [List.zipIdx_cons, List.foldl_cons]
     have := ih (k + 1) o (cells.setIfInBounds (o + k) v) (pre ++ [v]) seg post (by
      rw [Array.toList_setIfInBounds, h, ← hp]
      simp) (by simp; omega) (by simpa using hs)
     rw [this]
     simp
theorem fill_step {place : Nat → Option (Nat × Nat)} {i : Nat} {v : Value} {rest : List (Nat × Value)} {cells : Array Value} {off size : Nat} (hpl : place i = some (off, size))
 {pre seg post : List Value} (hc : cells.toList = pre ++ seg ++ post) (hp : pre.length = off) (hs : seg.length = size) (hv : v.cells.size = size) :
 ∃ cells' : Array Value, cells'.toList = pre ++ v.cells.toList ++ post ∧ Instr.fill place cells ((i, v) :: rest) = Instr.fill place cells' rest := by
 refine ⟨(v.cells.zipIdx.foldl (fun cs (p : Value × Nat) => cs.setIfInBounds (off + p.2) p.1) cells), ?_, ?_⟩
 ·have := foldl_set v.cells.toList 0 off cells pre seg post hc (by omega) (by simp; omega)
  rw [← Array.foldl_toList, Array.toList_zipIdx]
  exact this
 ·have hsz : cells.size = pre.length + seg.length + post.length := by
   have := congrArg List.length hc
   simp at this; omega
  rw [Instr.fill]
  simp only [hpl]
  rw [if_neg]
  simp only [hv, ne_eq, not_true, decide_false, Bool.false_or, decide_eq_true_eq]
  omega
section
variable {P : Program} {X : Ctx} {I : Nat → Prop} {ι : Nat → Loc} {w : World}
theorem nilD_sound {t : T} {y : t.D} (h : nilD t = some y) : rep I w t y [.slice none 0 0] := by
 cases t with
 | sl t => obtain rfl := Option.some.inj h; rw [rep]; exact ⟨none, 0, rfl, Nat.le_refl _, by decide, fun h => absurd rfl h⟩
 | _ => cases h
theorem toD_sound {t : T} {v : V} {y : t.D} (h : toD t v = some y) {u : Value} (hv : repV I ι w v u) (hsc : t.isAgg = true ∨ t.size = 1) :
 ∃ cs, u.cells = cs.toArray ∧ rep I w t y cs ∧ u = mkVal t.isAgg cs := by
 unfold toD at h
 split at h
 ·rename_i t' x
  obtain ⟨e, rfl⟩ := T.cast_some h
  subst e
  obtain ⟨cs, h1, h2⟩ := hv
  have := mkVal_cells h1 hsc
  rw [repC] at h1
  exact ⟨cs, by rw [h2]; exact this, h1, h2⟩
 ·obtain rfl := repV_nil hv
  refine ⟨[.slice none 0 0], rfl, nilD_sound h, ?_⟩
  cases t with
  | sl t => rfl
  | _ => cases h
 ·cases h
def Places (X : Ctx) (place : Nat → Option (Nat × Nat)) : Nat → Nat → T → Prop
 | i, off, .one t => place i = some (off, t.size) ∧ (∃ tid, X.ty tid = some t)
 | i, off, .cons t ts => place i = some (off, t.size) ∧ (∃ tid, X.ty tid = some t) ∧ Places X place (i + 1) (off + t.size) ts
 | _, _, _ => False
theorem ty_single (K : TyOk P X) {t : T} (h : ∃ tid, X.ty tid = some t) : t.isAgg = true ∨ t.size = 1 := by
 obtain ⟨tid, h⟩ := h
 cases ha : t.isAgg with
 | true => exact .inl rfl
 | false => exact .inr (K.nonagg h ha)
theorem zc_length : ∀ t : T, t.zc.length = t.size := fun t => rep_length (rep_zero (fun _ => True) default t)
theorem buildD_sound (K : TyOk P X) {place : Nat → Option (Nat × Nat)} : ∀ {fs : T} {i off : Nat} {ps : List (Nat × V)} {x : fs.D}, buildD fs i ps = some x → Places X place i off fs →
 ∀ {us : List (Nat × Value)}, us.map (·.1) = ps.map (·.1) → (∀ j (hj : j < ps.length) (hj' : j < us.length), repV I ι w ps[j].2 us[j].2) →
 ∀ {cells : Array Value} {pre : List Value}, cells.toList = pre ++ fs.zc → pre.length = off →
 ∃ cells' cs, Instr.fill place cells us = some cells' ∧ cells'.toList = pre ++ cs ∧ rep I w fs x cs := by
 intro fs
 induction fs with
 | one t ih =>
   intro i off ps x h hpl us hus hrep cells pre hc hp
   obtain ⟨hpl, hty⟩ := hpl
   cases ps with
   | nil =>
     cases us with
     | cons u us => cases hus
     | nil =>
       rw [buildD] at h
       obtain rfl := Option.some.inj h
       exact ⟨cells, t.zc, rfl, hc, by rw [rep]; exact rep_zero _ _ _⟩
   | cons p ps =>
     cases ps with
     | cons _ _ => cases h
     | nil =>
       rw [buildD] at h
       split at h
       ·rename_i hi
        cases us with
        | nil => cases hus
        | cons u us =>
          cases us with
          | cons _ _ => simp at hus
          | nil =>
            obtain ⟨i', u⟩ := u
            obtain ⟨i'', v⟩ := p
            simp at hus
            subst hus
            subst hi
            have hr : repV I ι w v u := hrep 0 (by simp) (by simp)
            obtain ⟨cs, h1, h2, _⟩ := toD_sound h hr (ty_single K hty)
            have hl := rep_length h2
            obtain ⟨cells', h3, h4⟩ := fill_step (v := u) (rest := []) hpl (pre := pre) (seg := t.zc) (post := []) (by rw [hc]; simp [T.zc]) hp (zc_length t) (by rw [h1]; simpa using hl)
            exact ⟨cells', cs, by rw [h4]; rfl, by rw [h3, h1]; simp, by rw [rep]; exact h2⟩
       ·cases h
 | cons t ts ih1 ih2 =>
   intro i off ps x h hpl us hus hrep cells pre hc hp
   obtain ⟨hpl, hty, hpls⟩ := hpl
   have hz := zc_length t
   have skip : ∀ {y}, buildD ts (i + 1) ps = some y → ∃ cells' cs, Instr.fill place cells us = some cells' ∧ cells'.toList = pre ++ cs ∧ rep I w (.cons t ts) (t.dflt, y) cs := by
    intro y hy
    obtain ⟨cells', cs, h1, h2, h3⟩ := ih2 hy hpls hus hrep (cells := cells) (pre := pre ++ t.zc) (by rw [hc]; simp [T.zc]) (by simp [hz, hp])
    exact ⟨cells', t.zc ++ cs, h1, by rw [h2]; simp, by rw [rep]; exact ⟨_, _, rfl, rep_zero _ _ _, h3⟩⟩
   cases ps with
   | nil =>
     rw [buildD] at h
     cases hy : buildD ts (i + 1) [] with
     | none => rw [hy] at h; cases h
     | some y => rw [hy] at h; obtain rfl := Option.some.inj h; exact skip hy
   | cons p ps =>
     rw [buildD] at h
     split at h
     ·rename_i hi
      cases us with
      | nil => cases hus
      | cons u us =>
        obtain ⟨i', u⟩ := u
        obtain ⟨i'', v⟩ := p
        simp at hus
        obtain ⟨rfl, hus⟩ := hus
        subst hi
        cases hx : toD t v with
        | none => rw [hx] at h; cases h
        | some a =>
          rw [hx, Option.bind_some] at h
          cases hy : buildD ts (i' + 1) ps with
          | none => rw [hy] at h; cases h
          | some y =>
            rw [hy] at h
            obtain rfl := Option.some.inj h
            have hr : repV I ι w v u := hrep 0 (by simp) (by simp)
            obtain ⟨cs, h1, h2, _⟩ := toD_sound hx hr (ty_single K hty)
            have hl := rep_length h2
            obtain ⟨cells1, h3, h4⟩ := fill_step (v := u) (rest := us) hpl (pre := pre) (seg := t.zc) (post := ts.zc) (by rw [hc]; simp [T.zc]) hp hz (by rw [h1]; simpa using hl)
            have hcu : u.cells.toList = cs := by rw [h1]
            obtain ⟨cells', cs', h5, h6, h7⟩ := ih2 hy hpls hus (fun j hj hj' => hrep (j + 1) (by simpa using hj) (by simpa using hj')) (cells := cells1) (pre := pre ++ cs) (by rw [h3, hcu]) (by simp [hl, hp])
            exact ⟨cells', cs ++ cs', by rw [h4]; exact h5, by rw [h6]; simp, by rw [rep]; exact ⟨_, _, rfl, h2, h7⟩⟩
     ·cases hy : buildD ts (i + 1) (p :: ps) with
      | none => rw [hy] at h; cases h
      | some y => rw [hy] at h; obtain rfl := Option.some.inj h; exact skip hy
 | _ => intro i off ps x h; cases h
end
end Go.Sw

namespace Go.Sw
section
variable {P : Program} {X : Ctx} {I : Nat → Prop} {ι : Nat → Loc} {w : World}
theorem partOf_sound {t : T} {v x : V} (h : partOf t v = some x) {u : Value} (hv : repV I ι w v u) (hsc : t.isAgg = true ∨ t.size = 1) :
 ∃ cs, u.cells = cs.toArray ∧ repC I ι w x cs ∧ cs.length = t.size := by
 unfold partOf at h
 split at h
 ·rename_i t' y
  cases hc : T.cast t y with
  | none => rw [hc] at h; cases h
  | some z =>
    rw [hc] at h
    obtain rfl := Option.some.inj h
    obtain ⟨cs, h1, h2, _⟩ := toD_sound (t := t) (v := .d t' y) (y := z) hc hv hsc
    exact ⟨cs, h1, by rw [repC]; exact h2, rep_length h2⟩
 ·rename_i hnot
  split at h
  ·rename_i hs
   obtain rfl := Option.some.inj h
   have hcs : v.csize = 1 ∧ v.isAgg = false := by cases v <;> first | (cases hs.1; done) | exact ⟨rfl, rfl⟩
   have hv' : ∃ cs, repC I ι w v cs ∧ u = mkVal v.isAgg cs := by cases v <;> first | (cases hs.1; done) | exact hv
   obtain ⟨cs, h1, rfl⟩ := hv'
   have := mkVal_cells h1 (.inr hcs.1)
   refine ⟨cs, this, h1, ?_⟩
   rw [repC_length h1, hcs.1]
   cases t <;> first | (cases hs.2; done) | rfl
  ·cases h
theorem zeroPart_sound {t : T} : repC I ι w (zeroPart t) t.zc := by
 unfold zeroPart
 split
 ·cases t with
  | sl t => rw [repC]; rfl
  | _ => rename_i h; cases h
 ·rw [repC]; exact rep_zero _ _ _
theorem buildP_sound (K : TyOk P X) {place : Nat → Option (Nat × Nat)} : ∀ {fs : T} {i off : Nat} {ps : List (Nat × V)} {x : V}, buildP fs i ps = some x → Places X place i off fs →
 ∀ {us : List (Nat × Value)}, us.map (·.1) = ps.map (·.1) → (∀ j (hj : j < ps.length) (hj' : j < us.length), repV I ι w ps[j].2 us[j].2) →
 ∀ {cells : Array Value} {pre : List Value}, cells.toList = pre ++ fs.zc → pre.length = off →
 ∃ cells' cs, Instr.fill place cells us = some cells' ∧ cells'.toList = pre ++ cs ∧ repC I ι w x cs := by
 intro fs
 induction fs with
 | one t ih =>
   intro i off ps x h hpl us hus hrep cells pre hc hp
   obtain ⟨hpl, hty⟩ := hpl
   cases ps with
   | nil =>
     cases us with
     | cons u us => cases hus
     | nil =>
       rw [buildP] at h
       obtain rfl := Option.some.inj h
       exact ⟨cells, t.zc, rfl, hc, by rw [repC]; exact ⟨t.zc, [], by simp, zeroPart_sound, by rw [repC]⟩⟩
   | cons p ps =>
     cases ps with
     | cons _ _ => cases h
     | nil =>
       rw [buildP] at h
       split at h
       ·rename_i hi
        cases us with
        | nil => cases hus
        | cons u us =>
          cases us with
          | cons _ _ => simp at hus
          | nil =>
            obtain ⟨i', u⟩ := u
            obtain ⟨i'', v⟩ := p
            simp at hus
            subst hus
            subst hi
            have hr : repV I ι w v u := hrep 0 (by simp) (by simp)
            cases hx : partOf t v with
            | none => rw [hx] at h; cases h
            | some z =>
              rw [hx] at h
              obtain rfl := Option.some.inj h
              obtain ⟨cs, h1, h2, hl⟩ := partOf_sound hx hr (ty_single K hty)
              obtain ⟨cells', h3, h4⟩ := fill_step (v := u) (rest := []) hpl (pre := pre) (seg := t.zc) (post := []) (by rw [hc]; simp [T.zc]) hp (zc_length t) (by rw [h1]; simpa using hl)
              exact ⟨cells', cs, by rw [h4]; rfl, by rw [h3, h1]; simp, by rw [repC]; exact ⟨cs, [], by simp, h2, by rw [repC]⟩⟩
       ·cases h
 | cons t ts ih1 ih2 =>
   intro i off ps x h hpl us hus hrep cells pre hc hp
   obtain ⟨hpl, hty, hpls⟩ := hpl
   have hz := zc_length t
   have skip : ∀ {y}, buildP ts (i + 1) ps = some y → ∃ cells' cs, Instr.fill place cells us = some cells' ∧ cells'.toList = pre ++ cs ∧ repC I ι w (.vcons (zeroPart t) y) cs := by
    intro y hy
    obtain ⟨cells', cs, h1, h2, h3⟩ := ih2 hy hpls hus hrep (cells := cells) (pre := pre ++ t.zc) (by rw [hc]; simp [T.zc]) (by simp [hz, hp])
    exact ⟨cells', t.zc ++ cs, h1, by rw [h2]; simp, by rw [repC]; exact ⟨_, _, rfl, zeroPart_sound, h3⟩⟩
   cases ps with
   | nil =>
     rw [buildP] at h
     cases hy : buildP ts (i + 1) [] with
     | none => rw [hy] at h; cases h
     | some y => rw [hy] at h; obtain rfl := Option.some.inj h; exact skip hy
   | cons p ps =>
     rw [buildP] at h
     split at h
     ·rename_i hi
      cases us with
      | nil => cases hus
      | cons u us =>
        obtain ⟨i', u⟩ := u
        obtain ⟨i'', v⟩ := p
        simp at hus
        obtain ⟨rfl, hus⟩ := hus
        subst hi
        cases hx : partOf t v with
        | none => rw [hx] at h; cases h
        | some a =>
          rw [hx, Option.bind_some] at h
          cases hy : buildP ts (i' + 1) ps with
          | none => rw [hy] at h; cases h
          | some y =>
            rw [hy] at h
            obtain rfl := Option.some.inj h
            have hr : repV I ι w v u := hrep 0 (by simp) (by simp)
            obtain ⟨cs, h1, h2, hl⟩ := partOf_sound hx hr (ty_single K hty)
            obtain ⟨cells1, h3, h4⟩ := fill_step (v := u) (rest := us) hpl (pre := pre) (seg := t.zc) (post := ts.zc) (by rw [hc]; simp [T.zc]) hp hz (by rw [h1]; simpa using hl)
            have hcu : u.cells.toList = cs := by rw [h1]
            obtain ⟨cells', cs', h5, h6, h7⟩ := ih2 hy hpls hus (fun j hj hj' => hrep (j + 1) (by simpa using hj) (by simpa using hj')) (cells := cells1) (pre := pre ++ cs) (by rw [h3, hcu]) (by simp [hl, hp])
            exact ⟨cells', cs ++ cs', by rw [h4]; exact h5, by rw [h6]; simp, by rw [repC]; exact ⟨_, _, rfl, h2, h7⟩⟩
     ·cases hy : buildP ts (i + 1) (p :: ps) with
      | none => rw [hy] at h; cases h
      | some y => rw [hy] at h; obtain rfl := Option.some.inj h; exact skip hy
 | _ => intro i off ps x h; cases h
theorem buildL_sound {t : T} (hty : t.isAgg = true ∨ t.size = 1) : ∀ {ps : List (Nat × V)} {i : Nat} {l : List t.D}, buildL t i ps = some l →
 ∀ {us : List (Nat × Value)}, us.map (·.1) = ps.map (·.1) → (∀ j (hj : j < ps.length) (hj' : j < us.length), repV I ι w ps[j].2 us[j].2) →
 ∀ {cells : Array Value} {pre post : List Value}, cells.toList = pre ++ post → pre.length = i * t.size → post.length = ps.length * t.size →
 ∃ cells' cs, Instr.fill (fun i => some (i * t.size, t.size)) cells us = some cells' ∧ cells'.toList = pre ++ cs ∧ repL (rep I w t) l cs ∧ l.length = ps.length := by
 intro ps
 induction ps with
 | nil =>
   intro i l h us hus hrep cells pre post hc hp hpo
   rw [buildL] at h
   obtain rfl := Option.some.inj h
   cases us with
   | cons u us => cases hus
   | nil =>
     have : post = [] := List.eq_nil_of_length_eq_zero (by simpa using hpo)
     subst this
     exact ⟨cells, [], rfl, hc, rfl, rfl⟩
 | cons p ps ih =>
   intro i l h us hus hrep cells pre post hc hp hpo
   rw [buildL] at h
   split at h
   ·rename_i hi
    cases us with
    | nil => cases hus
    | cons u us =>
      obtain ⟨i', u⟩ := u
      obtain ⟨i'', v⟩ := p
      simp at hus
      obtain ⟨rfl, hus⟩ := hus
      subst hi
      cases hx : toD t v with
      | none => rw [hx] at h; cases h
      | some a =>
        rw [hx, Option.bind_some] at h
        cases hy : buildL t (i' + 1) ps with
        | none => rw [hy] at h; cases h
        | some y =>
          rw [hy] at h
          obtain rfl := Option.some.inj h
          have hr : repV I ι w v u := hrep 0 (by simp) (by simp)
          obtain ⟨cs, h1, h2, _⟩ := toD_sound hx hr hty
          have hl := rep_length h2
          have hpo' : post.length = ps.length * t.size + t.size := by rw [hpo, List.length_cons, Nat.add_mul]; omega
          obtain ⟨cells1, h3, h4⟩ := fill_step (place := fun i => some (i * t.size, t.size)) (i := i') (v := u) (rest := us) rfl (pre := pre) (seg := post.take t.size) (post := post.drop t.size)
           (by rw [hc]; simp) hp (by simp [hpo']) (by rw [h1]; simpa using hl)
          have hcu : u.cells.toList = cs := by rw [h1]
          obtain ⟨cells', cs', h5, h6, h7, h8⟩ := ih hy hus (fun j hj hj' => hrep (j + 1) (by simpa using hj) (by simpa using hj')) (cells := cells1) (pre := pre ++ cs) (post := post.drop t.size)
           (by rw [h3, hcu]) (by simp [hl, hp, Nat.add_mul]) (by simp [hpo'])
          exact ⟨cells', cs ++ cs', by rw [h4]; exact h5, by rw [h6]; simp, ⟨_, _, rfl, h2, h7⟩, by simp [h8]⟩
   ·cases h
end
theorem places_struct (X : Ctx) : ∀ (fields : List Field) (off : Nat) (fs : T), fieldsOk X fields off fs = true →
 ∀ (place : Nat → Option (Nat × Nat)) (i : Nat), (∀ j f, fields[j]? = some f → ∃ t, X.ty f.type = some t ∧ place (i + j) = some (f.offset, t.size)) → Places X place i off fs := by
 intro fields
 induction fields with
 | nil => intro off fs h; cases fs <;> cases h
 | cons f fields ih =>
   intro off fs h place i hall
   cases fields with
   | nil =>
     cases fs with
     | one t =>
       simp only [fieldsOk, Bool.and_eq_true, beq_iff_eq, decide_eq_true_eq] at h
       obtain ⟨⟨h1, h2⟩, h3⟩ := h
       obtain ⟨t', h4, h5⟩ := hall 0 f rfl
       rw [h2] at h4
       obtain rfl := Option.some.inj h4
       rw [h1] at h5
       exact ⟨h5, _, h2⟩
     | _ => cases h
   | cons g fields =>
     cases fs with
     | cons t ts =>
       simp only [fieldsOk, Bool.and_eq_true, beq_iff_eq, decide_eq_true_eq] at h
       obtain ⟨⟨⟨h1, h2⟩, h3⟩, h6⟩ := h
       obtain ⟨t', h4, h5⟩ := hall 0 f rfl
       rw [h2] at h4
       obtain rfl := Option.some.inj h4
       rw [h1] at h5
       exact ⟨h5, ⟨_, h2⟩, ih _ _ h6 place (i + 1) (fun j f' hf => by have := hall (j + 1) f' (by simpa using hf); rwa [show i + (j + 1) = i + 1 + j from by omega] at this)⟩
     | _ => cases h
theorem places_array (X : Ctx) {te : T} (hte : ∃ tid, X.ty tid = some te) : ∀ (n : Nat) (fs : T), arrayOk te n fs = true → ∀ (i : Nat), Places X (fun i => some (i * te.size, te.size)) i (i * te.size) fs := by
 intro n
 induction n with
 | zero => intro fs h; cases fs <;> cases h
 | succ n ih =>
   intro fs h i
   cases n with
   | zero =>
     cases fs with
     | one t => simp only [arrayOk, decide_eq_true_eq] at h; subst h; exact ⟨rfl, hte⟩
     | _ => cases h
   | succ n =>
     cases fs with
     | cons t ts =>
       simp only [arrayOk, Bool.and_eq_true, decide_eq_true_eq] at h
       obtain ⟨rfl, h2⟩ := h
       have := ih ts h2 (i + 1)
       rw [Nat.add_mul, Nat.one_mul] at this
       exact ⟨rfl, hte, this⟩
     | _ => cases h
end Go.Sw

namespace Go.Sw
def cMake (n m : Int) : List Cnd := [dc (0 ≤ n), dc (n ≤ m), dc (m ≤ 1073741824)]
def cIdx (n : Int) (len : Nat) : List Cnd := [dc (0 ≤ n), dc (n < (len : Int))]
def cNN (n : Int) : List Cnd := [dc (0 ≤ n)]
def toN (n : Int) : Nat := n.toNat
def wrapI (k : IntKind) (n : Int) : Int := k.wrap n
def ofN (n : Nat) : Int := (n : Int)
def cLen (n : Nat) : List Cnd := [dc (n ≤ 1073741824)]
def evBuild (X : Ctx) (h : Hint) (t : TypeId) (ps : List (Nat × V)) : Option Out :=
 match X.ty t with
 | some (.st fs) =>
   (match h with
    | .part => (buildP fs 0 ps).bind fun c => Out.val (.agg c) []
    | _ => (buildD fs 0 ps).bind fun x => Out.val (.d (.st fs) x) [])
 | _ => none
def evRow (X : Ctx) (h : Hint) (id : Nat) (t : TypeId) (n : Nat) (ps : List (Nat × V)) : Option Out :=
 match X.ty t with
 | some (.sl te) =>
   if ps.length = n ∧ n * te.size ≤ 16777216 then
    (buildL te 0 ps).bind fun l =>
      (match h with
       | .own => some ⟨.vec id te, [], [(id, .vec (X.el t) te l)], []⟩
       | _ => Out.val (.d (.sl te) l) [])
   else none
 | _ => none
def evMake (X : Ctx) (id : Nat) (t : TypeId) (a b : V) : Option Out :=
 match X.ty t, a, b with
 | some (.sl te), .d (.int _) n, .d (.int _) m =>
   some ⟨.vec id te, [], [(id, .vec (X.el t) te (List.replicate (toN n) te.dflt))], cMake n m⟩
 | _, _, _ => none
def evAlloc (X : Ctx) (h : Hint) (id : Nat) (t : TypeId) : Option Out :=
 match X.ty t with
 | some (.st fs) =>
   (match h with
    | .part => (buildP fs 0 []).bind fun c => some ⟨.ptr id 0, [], [(id, .box t c)], []⟩
    | _ => some ⟨.ptr id 0, [], [(id, .box t (.vcons (.d (.st fs) (T.st fs).dflt) .vnil))], []⟩)
 | some τ => (match h with
    | .part => some ⟨.ptr id 0, [], [(id, .box t (.vcons (zeroPart τ) .vnil))], []⟩
    | _ => some ⟨.ptr id 0, [], [(id, .box t (.vcons (.d τ τ.dflt) .vnil))], []⟩)
 | _ => none
def evBox (id : Nat) (bt : TypeId) (v : V) : Option Out :=
 match v with
 | .agg l => some ⟨.ptr id 0, [], [(id, .box bt l)], []⟩
 | .d t x => if t.isAgg = true ∨ t.size = 1 then some ⟨.ptr id 0, [], [(id, .box bt (.vcons (.d t x) .vnil))], []⟩ else none
 | v => if v.single = true then some ⟨.ptr id 0, [], [(id, .box bt (.vcons v .vnil))], []⟩ else none
def intOf (v : Option V) : Option (Option Int) :=
 match v with
 | none => some none
 | some (.d (.int _) n) => some (some n)
 | _ => none
def evCut (len : Int) (lo hi mx : Option Int) : Int × Int × List Cnd :=
 match lo, hi, mx with
 | none, none, none => (0, len, [])
 | some l, none, none => (l, len, [dc (0 ≤ l), dc (l ≤ len)])
 | none, some h, none => (0, h, [dc (0 ≤ h), dc (h ≤ len)])
 | some l, some h, none => (l, h, [dc (0 ≤ l), dc (l ≤ h), dc (h ≤ len)])
 | none, none, some m => (0, len, [.p False])
 | some l, none, some m => (0, len, [.p False])
 | none, some h, some m => (0, h, [dc (0 ≤ h), dc (h ≤ m), dc (m ≤ len)])
 | some l, some h, some m => (l, h, [dc (0 ≤ l), dc (l ≤ h), dc (h ≤ m), dc (m ≤ len)])
def cutL {α : Type} (l : List α) (lo hi : Option Int) : List α :=
 match lo, hi with
 | none, none => l
 | some a, none => l.drop a.toNat
 | none, some b => l.take b.toNat
 | some a, some b => (l.take b.toNat).drop a.toNat
def cutS (s : ByteArray) (lo hi : Option Int) : ByteArray :=
 match lo, hi with
 | none, none => s
 | some a, none => s.extract a.toNat s.size
 | none, some b => s.extract 0 b.toNat
 | some a, some b => s.extract a.toNat b.toNat
def evSlice (X : Ctx) (t : TypeId) (x : V) (lo hi mx : Option V) : Option Out :=
 (intOf lo).bind fun l => (intOf hi).bind fun h => (intOf mx).bind fun m =>
 match x with
 | .d (.sl te) xs => if X.ty t = some (.sl te) then Out.val (.d (.sl te) (cutL xs l h)) (evCut (List.length xs) l h m).2.2 else none
 | .d .str s => if X.ty t = some .str ∧ m = none then Out.val (.d .str (cutS s l h)) (evCut s.size l h m).2.2 else none
 | _ => none
def evSliceV (X : Ctx) (σ : Nat → Option E) (t : TypeId) (x : V) (lo hi mx : Option V) : Option Out :=
 (intOf lo).bind fun l => (intOf hi).bind fun h => (intOf mx).bind fun m =>
 match x with
 | .vec k te => (vecOf σ k te).bind fun xs => if X.ty t = some (.sl te) ∧ m = none then
    Out.val (.sub k te (evCut (List.length xs.2) l h m).1.toNat ((evCut (List.length xs.2) l h m).2.1.toNat - (evCut (List.length xs.2) l h m).1.toNat)) (dc (0 < List.length xs.2) :: (evCut (List.length xs.2) l h m).2.2) else none
 | .sub k te off len => if X.ty t = some (.sl te) ∧ m = none then
    Out.val (.sub k te (off + (evCut len l h m).1.toNat) ((evCut len l h m).2.1.toNat - (evCut len l h m).1.toNat)) (evCut len l h m).2.2 else none
 | _ => none
def evFieldAddr (X : Ctx) (s : TypeId) (x : V) (f : Nat) : Option Out :=
 match X.ty s with
 | some (.st fs) => if X.ar s = true then none else
   (match x with
    | .ptr k off => (T.foff fs f).bind fun p => Out.val (.ptr k (off + p.1)) []
    | .pt (.st gs) y => if gs = fs then (T.fldPt gs y f).bind fun v => Out.val v [] else none
    | .elt k u i off => (T.foff fs f).bind fun p => Out.val (.elt k u i (off + p.1)) []
    | _ => none)
 | _ => none
def evField (X : Ctx) (s : TypeId) (x : V) (f : Nat) : Option Out :=
 match x with
 | .d (.st gs) y => if X.ty s = some (.st gs) ∧ X.ar s = false then (T.fld gs y f).bind fun v => Out.val v [] else none
 | .agg c => (match X.ty s with | some (.st gs) => if X.ar s = false then (T.foff gs f).bind fun p => (V.rd (some p.2) c p.1).bind fun v => Out.val v [] else none | _ => none)
 | _ => none
def evIndexAddr (X : Ctx) (σ : Nat → Option E) (t : TypeId) (x i : V) : Option Out :=
 match i with
 | .d (.int _) n =>
   (match X.ty t with
    | some (.sl te) =>
      (match x with
       | .d (.sl te') l => if te' = te then Out.val (.pt te' (List.getD l (toN n) te'.dflt)) (cIdx n (List.length l)) else none
       | .vec k te' => if te' = te then (vecOf σ k te').bind fun l => Out.val (.elt k te' (toN n) 0) (cIdx n (List.length l.2)) else none
       | .sub k te' off len => if te' = te then Out.val (.elt k te' (off + toN n) 0) (cIdx n len) else none
       | _ => none)
    | some (.st fs) =>
      if X.ar t = true then
       (match x with
        | .ptr k off => (T.foff fs (toN n)).bind fun p => Out.val (.ptr k (off + p.1)) (cNN n)
        | .pt (.st gs) y => if gs = fs then (T.fldPt gs y (toN n)).bind fun v => Out.val v (cNN n) else none
        | _ => none)
      else none
    | _ => none)
 | _ => none
def evIndex (X : Ctx) (t : TypeId) (x i : V) : Option Out :=
 match x, i with
 | .d .str s, .d (.int _) n => if X.ty t = some .str then Out.val (.d (.int .u8) (ofN (s.data.toList.getD (toN n) 0).toNat)) (cIdx n s.size) else none
 | .d (.st gs) y, .d (.int _) n => if X.ty t = some (.st gs) ∧ X.ar t = true then (T.fld gs y (toN n)).bind fun v => Out.val v (cNN n) else none
 | _, _ => none
def nthV : V → Nat → Option V
 | .vcons a _, 0 => some a
 | .vcons _ b, i + 1 => nthV b i
 | _, _ => none
def evExtract (x : V) (i : Nat) : Option Out :=
 match x with
 | .tup l => (nthV l i).bind fun v => Out.val v []
 | _ => none
def evConvert (X : Ctx) (src dst : TypeId) (x : V) : Option Out :=
 match X.ty src, X.ty dst, x with
 | some _, some (.int k), .d (.int _) n => Out.val (.d (.int k) (wrapI k n)) []
 | _, _, _ => none
def evLen (X : Ctx) (σ : Nat → Option E) (t : TypeId) (x : V) : Option Out :=
 match X.ty t, x with
 | some (.sl te), .d (.sl te') l => if te' = te then Out.val (.d (.int .i64) (ofN (List.length l))) [] else none
 | some (.sl te), .vec k te' => if te' = te then (vecOf σ k te').bind fun l => Out.val (.d (.int .i64) (ofN (List.length l.2))) [] else none
 | some (.sl _), .sub k te' off len => Out.val (.d (.int .i64) (ofN len)) []
 | some (.sl _), .nil => Out.val (.d (.int .i64) (ofN 0)) []
 | some .str, .d .str s => Out.val (.d (.int .i64) (ofN s.size)) []
 | _, _ => none
def max2i (a b : Int) : Int := if b > a then b else a
def min2i (a b : Int) : Int := if b < a then b else a
def evMax (k : IntKind) (f : Int → Int → Int) : Int → List V → Option Int
 | a, [] => some a
 | a, .d (.int k') b :: r => if k' = k then evMax k f (f a b) r else none
 | _, _ => none
def evMaxMin (f : Int → Int → Int) (args : List V) : Option Out :=
 match args with
 | .d (.int k) a :: r => (evMax k f a r).bind fun n => Out.val (.d (.int k) n) []
 | _ => none
def srcOf (te : T) (v : V) : Option (List te.D) :=
 match v with
 | .d _ x => T.cast (.sl te) x
 | .nil => some []
 | _ => none
def evAppend0 (X : Ctx) (σ : Nat → Option E) (h : Hint) (id : Nat) (t : TypeId) (s x : V) : Option Out :=
 match X.ty t with
 | some (.sl te) =>
   (srcOf te x).bind fun m =>
   (match s with
    | .nil =>
      (match h with
       | .own => some ⟨.vec id te, [], [(id, .vec (X.el t) te m)], cLen (List.length m)⟩
       | _ => Out.val (.d (.sl te) m) (cLen (List.length m)))
    | .vec k te' => if te' = te then (vecOf σ k te).bind fun l => if l.1 = X.el t then some ⟨.vec k te, [k], [(k, .vec l.1 te (l.2 ++ m))], cLen (List.length (l.2 ++ m))⟩ else none else none
    | _ => none)
 | _ => none
def evAppend (X : Ctx) (σ : Nat → Option E) (h : Hint) (id : Nat) (t : TypeId) (s x : V) : Option Out :=
 match h, s with
 | .part, .vec k te' => (match X.ty t with
   | some (.sl te) => (srcOf te x).bind fun m => if te' = te then (vecOf σ k te).bind fun l => if l.1 = X.el t then some ⟨.d (.sl te) (l.2 ++ m), [k], [(k, .vec l.1 te [])], cLen (List.length (l.2 ++ m))⟩ else none else none
   | _ => none)
 | h, s => evAppend0 X σ h id t s x
end Go.Sw

namespace Go.Sw
section
variable {P : Program} {X : Ctx} {F : Nat → Prop} {σ : Nat → Option E} {ι : Nat → Loc} {w : World}
theorem run_places (K : TyOk P X) (fields : List Field) (w : World) (h : ∀ f ∈ fields, ∃ t, X.ty f.type = some t) :
 ∃ pl : Array (Nat × Nat), ((fields.toArray.mapM fun (f : Field) => do pure (f.offset, ← sizeOf f.type) : Sem (Array (Nat × Nat)))).run P w = .ok pl w ∧
  ∀ (j : Nat) (f : Field), fields[j]? = some f → ∃ t, X.ty f.type = some t ∧ pl[j]? = some (f.offset, t.size) := by
 have key : ∀ (fs : List Field), (∀ f ∈ fs, ∃ t, X.ty f.type = some t) → ∃ l : List (Nat × Nat), ((fs.mapM fun (f : Field) => do pure (f.offset, ← sizeOf f.type) : Sem (List (Nat × Nat)))).run P w = .ok l w ∧
  ∀ (j : Nat) (f : Field), fs[j]? = some f → ∃ t, X.ty f.type = some t ∧ l[j]? = some (f.offset, t.size) := by
  intro fs
  induction fs with
  | nil => intro _; exact ⟨[], by simp, fun j f hj => by simp at hj⟩
  | cons f fs ih =>
    intro hall
    obtain ⟨t, ht⟩ := hall f (by simp)
    obtain ⟨l, hl, hj⟩ := ih fun g hg => hall g (by simp [hg])
    refine ⟨(f.offset, t.size) :: l, ?_, ?_⟩
    ·simp only [List.mapM_cons, Sem.run_bind, run_sizeOf K ht w, Result.andThen_ok, Sem.run_pure, hl]
    ·intro j g hg
     cases j with
     | zero => simp at hg; subst hg; exact ⟨t, ht, rfl⟩
     | succ j => exact hj j g (by simpa using hg)
 obtain ⟨l, hl, hj⟩ := key fields h
 refine ⟨l.toArray, ?_, fun j f hf => by simpa using hj j f hf⟩
 rw [List.mapM_toArray]
 simp only [Sem.run_map, hl, Result.andThen_ok]
theorem fieldsOk_ty : ∀ {fields : List Field} {off : Nat} {fs : T}, fieldsOk X fields off fs = true → ∀ f ∈ fields, ∃ t, X.ty f.type = some t := by
 intro fields
 induction fields with
 | nil => intro off fs h f hf; cases hf
 | cons f fields ih =>
   intro off fs h g hg
   cases fields with
   | nil =>
     cases fs with
     | one t =>
       simp only [fieldsOk, Bool.and_eq_true, decide_eq_true_eq] at h
       simp at hg; subst hg; exact ⟨t, h.1.2⟩
     | _ => cases h
   | cons f' fields =>
     cases fs with
     | cons t ts =>
       simp only [fieldsOk, Bool.and_eq_true, decide_eq_true_eq] at h
       rcases List.mem_cons.1 hg with rfl | hg
       ·exact ⟨t, h.1.1.2⟩
       ·exact ih h.2 g hg
     | _ => cases h
theorem run_build (K : TyOk P X) {t : TypeId} {fs : T} (ht : X.ty t = some (.st fs)) (w : World) (us : List (Nat × Value)) {R : List Value → Prop}
 (hfill : ∀ place, Places X place 0 0 fs → ∃ cells' cs, Instr.fill place fs.zc.toArray us = some cells' ∧ cells'.toList = [] ++ cs ∧ R cs) :
 ∃ cs, (Instr.build t us.toArray).run P w = .ok (.agg cs.toArray) w ∧ R cs := by
 obtain ⟨d, hd, hs⟩ := K.und ht
 have hz := run_zeroValue K ht w
 cases d with
 | struct fields =>
   have hf : fieldsOk X fields.toList 0 fs = true := hs
   obtain ⟨pl, hpl, hpj⟩ := run_places K fields.toList w (fieldsOk_ty hf)
   have hP := places_struct X fields.toList 0 fs hf (pl[·]?) 0 (fun j f hj => by simpa using hpj j f hj)
   obtain ⟨cells', cs, h1, h2, h3⟩ := hfill _ hP
   refine ⟨cs, ?_, h3⟩
   have he : cells' = cs.toArray := by apply Array.ext'; simpa using h2
   unfold Instr.build
   simp only [Sem.run_bind, hz, Result.andThen_ok, run_underlying hd]
   have hpl' : (fields.mapM fun (f : Field) => do pure (f.offset, ← sizeOf f.type) : Sem (Array (Nat × Nat))).run P w = .ok pl w := by simpa using hpl
   simp only [hpl', Result.andThen_ok]
   have : (mkVal (T.st fs).isAgg (T.st fs).zc).cells = fs.zc.toArray := rfl
   rw [this, h1]
   simp only [Sem.run_pure, he]
 | array n e =>
   have hs' : (match X.ty e with | some te => arrayOk te n fs && decide (0 < te.size) | none => false) = true := hs
   cases hte : X.ty e with
   | none => rw [hte] at hs'; cases hs'
   | some te =>
     rw [hte] at hs'
     simp only [Bool.and_eq_true, decide_eq_true_eq] at hs'
     have hP := places_array X ⟨e, hte⟩ n fs hs'.1 0
     rw [Nat.zero_mul] at hP
     obtain ⟨cells', cs, h1, h2, h3⟩ := hfill _ hP
     refine ⟨cs, ?_, h3⟩
     have he : cells' = cs.toArray := by apply Array.ext'; simpa using h2
     unfold Instr.build
     simp only [Sem.run_bind, hz, Result.andThen_ok, run_underlying hd, run_sizeOf K hte w]
     have : (mkVal (T.st fs).isAgg (T.st fs).zc).cells = fs.zc.toArray := rfl
     rw [this, h1]
     simp only [Sem.run_pure, he]
 | _ => cases hs
def PartsRep (I : Nat → Prop) (ι : Nat → Loc) (w : World) (ps : List (Nat × V)) (us : List (Nat × Value)) : Prop :=
 us.map (·.1) = ps.map (·.1) ∧ ∀ j (hj : j < ps.length) (hj' : j < us.length), repV I ι w ps[j].2 us[j].2
theorem evBuild_sound (K : TyOk P X) {h : Hint} {t : TypeId} {ps : List (Nat × V)} {o : Out} (hev : evBuild X h t ps = some o) {us : List (Nat × Value)} {I : Nat → Prop} (hps : PartsRep I ι w ps us) :
 o.kill = [] ∧ o.upd = [] ∧ ∃ u, (Instr.build t us.toArray).run P w = .ok u w ∧ repV I ι w o.v u := by
 unfold evBuild at hev
 split at hev
 ·rename_i fs ht
  split at hev
  ·cases hb : buildP fs 0 ps with
   | none => rw [hb] at hev; cases hev
   | some c =>
     rw [hb, Option.bind_some] at hev
     obtain rfl := Option.some.inj hev
     obtain ⟨cs, h1, h2⟩ := run_build K ht w us (R := fun cs => repC I ι w c cs) (fun place hP => buildP_sound K hb hP hps.1 hps.2 (by simp) rfl)
     exact ⟨rfl, rfl, _, h1, cs, by rw [repC]; exact h2, rfl⟩
  ·cases hb : buildD fs 0 ps with
   | none => rw [hb] at hev; cases hev
   | some c =>
     rw [hb, Option.bind_some] at hev
     obtain rfl := Option.some.inj hev
     obtain ⟨cs, h1, h2⟩ := run_build K ht w us (R := fun cs => rep I w fs c cs) (fun place hP => buildD_sound K hb hP hps.1 hps.2 (by simp) rfl)
     exact ⟨rfl, rfl, _, h1, cs, by rw [repC, rep]; exact h2, rfl⟩
 ·cases hev
theorem At.of_new (w : World) (cs : List Value) (e : TypeId) : At (w.alloc (.cells cs.toArray e)) w.heap.size 0 cs := by
 have := At.of_cells (w := w.alloc (.cells cs.toArray e)) (heap_alloc_new' w _)
 simpa using this
theorem TyOk.slice (K : TyOk P X) {t : TypeId} {te : T} (h : X.ty t = some (.sl te)) : P.underlying t = some (.slice (X.el t)) ∧ X.ty (X.el t) = some te ∧ 0 < te.size := by
 obtain ⟨d, hd, hs⟩ := K.und h
 cases d with
 | slice e =>
   have hs' : (decide (X.ty e = some te) && decide (0 < te.size) && X.el t == e) = true := hs
   simp only [Bool.and_eq_true, decide_eq_true_eq, beq_iff_eq] at hs'
   rw [hs'.2]
   exact ⟨hd, hs'.1.1, hs'.1.2⟩
 | _ => cases hs
theorem evRow_sound (K : TyOk P X) (H : HoldsE F σ ι w) {h : Hint} {id : Nat} (hid : σ id = none) {t : TypeId} {n : Nat} {ps : List (Nat × V)} {o : Out} (hev : evRow X h id t n ps = some o) {us : List (Nat × Value)}
 (hps : PartsRep (Imm F ι w) ι w ps us) :
 o.kill = [] ∧ ∃ u w' ι', (Instr.buildSlice t n us.toArray).run P w = .ok u w' ∧ repV (Imm F ι' w') ι' w' o.v u ∧
  ((o.upd = [] ∧ Turn F none' ι w σ ι' w') ∨ ∃ e, o.upd = [(id, e)] ∧ Turn F none' ι w (updE σ id (some e)) ι' w') := by
 unfold evRow at hev
 split at hev
 ·rename_i te ht
  split at hev
  ·rename_i hn
   obtain ⟨hn, hbig⟩ := hn
   cases hb : buildL te 0 ps with
   | none => rw [hb] at hev; cases hev
   | some l =>
     rw [hb, Option.bind_some] at hev
     obtain ⟨hu, hte, hsz⟩ := K.slice ht
     have hzr := run_zeroValue K hte w
     have hsr := run_sizeOf K hte w
     have hz : ((Array.range (n * te.size)).map fun i => (mkVal te.isAgg te.zc).cells[i % (mkVal te.isAgg te.zc).cells.size]!).toList.length = ps.length * te.size := by simp [hn]
     obtain ⟨cells', cs, h1, h2, h3, h4⟩ := buildL_sound (I := Imm F ι w) (ι := ι) (w := w) (ty_single K ⟨_, hte⟩) hb hps.1 hps.2
      (cells := (Array.range (n * te.size)).map fun i => (mkVal te.isAgg te.zc).cells[i % (mkVal te.isAgg te.zc).cells.size]!) (pre := []) (by simp) (by simp) hz
     have he : cells' = cs.toArray := by apply Array.ext'; simpa using h2
     have hl : cs.length = n * te.size := by rw [repL_length (fun _ _ => rep_length) h3, h4, hn]
     have hrun : (Instr.buildSlice t n us.toArray).run P w = .ok (.slice (some ⟨w.heap.size, 0, none⟩) n n) (w.alloc (.cells cs.toArray (X.el t))) := by
      have hnb : ¬ (n * te.size > 2 ^ 24) := by have : (2 : Nat) ^ 24 = 16777216 := by decide
                                                omega
      unfold Instr.buildSlice
      simp only [Sem.run_bind, run_underlying hu, Result.andThen_ok, hsr, hnb, if_false]
      by_cases h0 : n * te.size = 0
      ·simp only [h0, if_true, Sem.run_pure, Result.andThen_ok]
       have hps0 : us = [] := by
        have : ps = [] := List.eq_nil_of_length_eq_zero (by rcases Nat.mul_eq_zero.1 h0 with h | h <;> omega)
        subst this
        have := hps.1
        cases us with
        | nil => rfl
        | cons u us => cases this
       subst hps0
       have hcs : cs = [] := List.eq_nil_of_length_eq_zero (by omega)
       subst hcs
       simp [Instr.fill, newRow, Array.range_zero']
      ·simp only [h0, if_false, Sem.run_bind, hzr, Sem.run_pure, Result.andThen_ok]
       rw [h1, he]
       simp [newRow]
     have hnle : (n : Int) ≤ 9223372036854775807 := by
      have : n ≤ n * te.size := Nat.le_mul_of_pos_right n hsz
      omega
     split at hev
     ·obtain rfl := Option.some.inj hev
      have hturn := Turn.named H hid (.cells cs.toArray (X.el t)) n (.vec (X.el t) te l) (fun hst hsm => ⟨by rw [h4, hn], cs.toArray, cs, heap_alloc_new' _ _, hsz, At.of_new _ _ _, repL_mono (fun _ _ => rep_stay hst) h3⟩)
      refine ⟨rfl, _, _, updL ι id (.blk w.heap.size n), hrun, ⟨[.slice (some ⟨w.heap.size, 0, none⟩) n n], ?_, rfl⟩, .inr ⟨_, rfl, hturn⟩⟩
      rw [repC]
      refine .inr ⟨w.heap.size, n, n, updL_same _ _ _, rfl, Nat.le_refl _, hnle, ?_⟩
      rw [blkSize_eq (heap_alloc_new' _ _)]
      simpa using hl.symm
     ·obtain rfl := Option.some.inj hev
      have hturn := Turn.fresh H (.cells cs.toArray (X.el t))
      refine ⟨rfl, _, _, ι, hrun, ⟨[.slice (some ⟨w.heap.size, 0, none⟩) n n], ?_, rfl⟩, .inl ⟨rfl, hturn⟩⟩
      rw [repC, rep]
      refine ⟨some ⟨w.heap.size, 0, none⟩, n, by rw [show List.length (α := te.D) l = n from by rw [h4, hn]], by rw [show List.length (α := te.D) l = n from by rw [h4, hn]]; exact Nat.le_refl _, hnle, fun _ => ⟨w.heap.size, 0, cs, rfl, imm_fresh H _, At.of_new _ _ _, repL_mono (fun _ _ => rep_stay hturn.stay) h3⟩⟩
  ·cases hev
 ·cases hev
end
end Go.Sw

namespace Go.Sw
section
variable {P : Program} {X : Ctx} {F : Nat → Prop} {σ : Nat → Option E} {ι : Nat → Loc} {w : World} {I : Nat → Prop}
theorem repL_replicate {α : Type} {R : α → List Value → Prop} {x : α} {c : List Value} (h : R x c) : ∀ n : Nat, repL R (List.replicate n x) (List.replicate n c).flatten := by
 intro n
 induction n with
 | zero => rfl
 | succ n ih => exact ⟨c, _, by simp [List.replicate_succ], h, ih⟩
theorem flatten_replicate_length (n : Nat) (c : List Value) : (List.replicate n c).flatten.length = n * c.length := by
 induction n with
 | zero => simp
 | succ n ih => simp [List.replicate_succ, ih, Nat.add_mul]; omega
theorem madeCells_flat (c : List Value) (hc : 0 < c.length) : ∀ n : Nat, (madeCells c.toArray (n * c.length)).toList = (List.replicate n c).flatten := by
 intro n
 apply List.ext_getElem?
 intro j
 have hl : (madeCells c.toArray (n * c.length)).toList.length = n * c.length := by simp [madeCells]
 by_cases hj : j < n * c.length
 ·have h1 : (madeCells c.toArray (n * c.length)).toList[j]? = some (c.toArray[j % c.length]!) := by
   simp [madeCells, hj]
  rw [h1]
  have hm : j % c.length < c.length := Nat.mod_lt _ hc
  have h2 : c.toArray[j % c.length]! = c[j % c.length] := by simp [hm]
  rw [h2]
  have key : ∀ (n j : Nat), j < n * c.length → (List.replicate n c).flatten[j]? = c[j % c.length]? := by
   intro n
   induction n with
   | zero => intro j hj; simp at hj
   | succ n ih =>
     intro j hj
     rw [List.replicate_succ, List.flatten_cons, List.getElem?_append]
     split
     ·rename_i hlt; rw [Nat.mod_eq_of_lt hlt]
     ·rename_i hge
      rw [ih (j - c.length) (by rw [Nat.add_mul] at hj; omega)]
      congr 1
      rw [Nat.mod_eq_sub_mod (a := j) (b := c.length) (by omega)]
  rw [key n j hj, List.getElem?_eq_getElem hm]
 ·rw [List.getElem?_eq_none (by omega), List.getElem?_eq_none (by rw [flatten_replicate_length]; omega)]
theorem mkVal_zc_cells (K : TyOk P X) {te : T} (hte : ∃ tid, X.ty tid = some te) : (mkVal te.isAgg te.zc).cells = te.zc.toArray := by
 have := mkVal_cells (I := fun _ => True) (ι := fun _ => .dead) (w := default) (x := .d te te.dflt) (cs := te.zc) (by rw [repC]; exact rep_zero _ _ _) (ty_single K hte)
 exact this
theorem make_sound (K : TyOk P X) (H : HoldsE F σ ι w) {id : Nat} (hid : σ id = none) {t : TypeId} {te : T} (ht : X.ty t = some (.sl te)) (k k' : IntKind) (n m : Int) (hc : AllTrue (cMake n m)) :
 ∃ u w' ι' e, (Instr.makeSlice t (.int k n) (.int k' m)).run P w = .ok u w' ∧ repV (Imm F ι' w') ι' w' (.vec id te) u ∧ [(id, E.vec (X.el t) te (List.replicate (toN n) te.dflt))] = [(id, e)] ∧
  Turn F none' ι w (updE σ id (some e)) ι' w' := by
 obtain ⟨h0, h1, h2, _⟩ := hc
 obtain ⟨hu, hte, hsz⟩ := K.slice ht
 obtain ⟨i, hi, hsize, hbytes, z, hz, hzz⟩ := K.info hte
 have hr := run_make (P := P) w t (X.el t) i z hu hi hz k k' n m h0 h1 (by
  have : ((i.bytes : Int)) ≤ 65536 := by omega
  have h3 : (i.bytes : Int) * m ≤ 65536 * m := Int.mul_le_mul_of_nonneg_right this (by omega)
  omega) (by omega)
 have hzc : z.cells = te.zc.toArray := by rw [hzz]; exact mkVal_zc_cells K ⟨_, hte⟩
 have hzl := zc_length te
 rw [hzc, hsize, ← hzl] at hr
 have hflat := madeCells_flat te.zc (by omega) m.toNat
 have harr : madeCells te.zc.toArray (m.toNat * te.zc.length) = ((List.replicate m.toNat te.zc).flatten).toArray := by apply Array.ext'; simpa using hflat
 rw [harr] at hr
 have hle : n.toNat ≤ m.toNat := by omega
 have hsplit : (List.replicate m.toNat te.zc).flatten = (List.replicate n.toNat te.zc).flatten ++ (List.replicate (m.toNat - n.toNat) te.zc).flatten := by
  rw [← List.flatten_append]
  congr 1
  rw [List.replicate_append_replicate]
  congr 1
  omega
 have hturn := Turn.named H hid (.cells ((List.replicate m.toNat te.zc).flatten).toArray (X.el t)) n.toNat (.vec (X.el t) te (List.replicate n.toNat te.dflt))
  (fun hst hsm => ⟨by simp, _, (List.replicate n.toNat te.zc).flatten, heap_alloc_new' _ _, hsz, (by
    have := At.of_new w ((List.replicate m.toNat te.zc).flatten) (X.el t)
    rw [hsplit] at this ⊢
    exact this.left), repL_replicate (rep_zero _ _ _) _⟩)
 refine ⟨_, _, updL ι id (.blk w.heap.size n.toNat), _, hr, ⟨[.slice (some ⟨w.heap.size, 0, none⟩) n.toNat m.toNat], ?_, rfl⟩, rfl, hturn⟩
 rw [repC]
 refine .inr ⟨w.heap.size, n.toNat, m.toNat, updL_same _ _ _, rfl, hle, by omega, ?_⟩
 rw [blkSize_eq (heap_alloc_new' _ _)]
 simp only [List.size_toArray]
 rw [flatten_replicate_length, hzl]
theorem evMake_sound (K : TyOk P X) (H : HoldsE F σ ι w) {id : Nat} (hid : σ id = none) {t : TypeId} {a b : V} {o : Out} (hev : evMake X id t a b = some o) (hc : AllTrue o.c) {va vb : Value}
 (ha : repV (Imm F ι w) ι w a va) (hb : repV (Imm F ι w) ι w b vb) :
 o.kill = [] ∧ ∃ u w' ι' e, (Instr.makeSlice t va vb).run P w = .ok u w' ∧ repV (Imm F ι' w') ι' w' o.v u ∧ o.upd = [(id, e)] ∧ Turn F none' ι w (updE σ id (some e)) ι' w' := by
 unfold evMake at hev
 split at hev
 ·rename_i te k n k' m ht
  obtain rfl := Option.some.inj hev
  obtain ⟨rfl, hn⟩ := repV_int ha
  obtain ⟨rfl, hm⟩ := repV_int hb
  exact ⟨rfl, make_sound K H hid ht k k' n m hc⟩
 ·cases hev
theorem run_newVar (w : World) (t : TypeId) (v : Value) : (newVar t v).run P w = .ok ⟨w.heap.size, 0, none⟩ (w.alloc (.cells v.cells t)) := by
 simp [newVar, newRow]
theorem Turn.box (H : HoldsE F σ ι w) {id : Nat} (hid : σ id = none) {c : V} {cs : List Value} (hr : repC (Imm F ι w) ι w c cs) (t : TypeId) :
 Turn F none' ι w (updE σ id (some (.box t c))) (updL ι id (.blk w.heap.size 0)) (w.alloc (.cells cs.toArray t)) :=
 Turn.named H hid _ 0 _ (fun hst hsm => ⟨cs.toArray, heap_alloc_new' _ _, by simpa using repC_same hst hsm hr⟩)
theorem evBox_sound (H : HoldsE F σ ι w) {id : Nat} (hid : σ id = none) {v : V} {o : Out} {va : Value} (t : TypeId) (hev : evBox id t v = some o)
 (ha : repV (Imm F ι w) ι w v va) :
 o.kill = [] ∧ ∃ u w' ι' e, (Instr.box t va).run P w = .ok u w' ∧ repV (Imm F ι' w') ι' w' o.v u ∧ o.upd = [(id, e)] ∧ Turn F none' ι w (updE σ id (some e)) ι' w' := by
 have run : (Instr.box t va).run P w = .ok (.pointer (some ⟨w.heap.size, 0, none⟩)) (w.alloc (.cells va.cells t)) := by
  unfold Instr.box
  simp only [Sem.run_bind, run_newVar, Result.andThen_ok, Sem.run_pure]
 have fin : ∀ {c : V} {cs : List Value}, va.cells = cs.toArray → repC (Imm F ι w) ι w c cs →
  ∃ u w' ι' e, (Instr.box t va).run P w = .ok u w' ∧ repV (Imm F ι' w') ι' w' (.ptr id 0) u ∧ [(id, E.box t c)] = [(id, e)] ∧ Turn F none' ι w (updE σ id (some e)) ι' w' := by
  intro c cs hcs hr
  have ht := Turn.box H hid hr t
  rw [hcs] at run
  exact ⟨_, _, _, _, run, repV_ptr_mk (updL_same _ _ _), rfl, ht⟩
 unfold evBox at hev
 split at hev
 ·obtain rfl := Option.some.inj hev
  obtain ⟨cs, h1, rfl⟩ := ha
  rw [repC] at h1
  exact ⟨rfl, fin rfl h1⟩
 ·rename_i t' x
  split at hev
  ·rename_i hs
   obtain rfl := Option.some.inj hev
   obtain ⟨cs, h1, rfl⟩ := ha
   exact ⟨rfl, fin (mkVal_cells h1 hs) (c := .vcons (.d t' x) .vnil) (by rw [repC]; exact ⟨cs, [], by simp, h1, by rw [repC]⟩)⟩
  ·cases hev
 ·split at hev
  ·rename_i hs
   obtain rfl := Option.some.inj hev
   have hcs : v.csize = 1 := by cases v <;> first | (cases hs; done) | rfl
   have hv' : ∃ cs, repC (Imm F ι w) ι w v cs ∧ va = mkVal v.isAgg cs := by cases v <;> first | (cases hs; done) | exact ha
   obtain ⟨cs, h1, rfl⟩ := hv'
   exact ⟨rfl, fin (mkVal_cells h1 (.inr hcs)) (c := .vcons v .vnil) (by rw [repC]; exact ⟨cs, [], by simp, h1, by rw [repC]⟩)⟩
  ·cases hev
theorem buildP_zero : ∀ {fs : T} {i : Nat} {c : V}, buildP fs i [] = some c → repC I ι w c fs.zc := by
 intro fs
 induction fs with
 | one t ih => intro i c h; rw [buildP] at h; obtain rfl := Option.some.inj h; rw [repC]; exact ⟨t.zc, [], by simp [T.zc], zeroPart_sound, by rw [repC]⟩
 | cons t ts ih1 ih2 =>
   intro i c h
   rw [buildP] at h
   cases hy : buildP ts (i + 1) [] with
   | none => rw [hy] at h; cases h
   | some y =>
     rw [hy] at h
     obtain rfl := Option.some.inj h
     rw [repC]
     exact ⟨_, _, rfl, zeroPart_sound, ih2 hy⟩
 | _ => intro i c h; cases h
theorem evAlloc_sound (K : TyOk P X) (H : HoldsE F σ ι w) {h : Hint} {id : Nat} (hid : σ id = none) {t : TypeId} {o : Out} (hev : evAlloc X h id t = some o) :
 o.kill = [] ∧ ∃ u w' ι' e, (Instr.alloc t true (.tuple #[])).run P w = .ok u w' ∧ repV (Imm F ι' w') ι' w' o.v u ∧ o.upd = [(id, e)] ∧ Turn F none' ι w (updE σ id (some e)) ι' w' := by
 have fin : ∀ {τ : T} {c : V}, X.ty t = some τ → repC (Imm F ι w) ι w c τ.zc →
  ∃ u w' ι' e, (Instr.alloc t true (.tuple #[])).run P w = .ok u w' ∧ repV (Imm F ι' w') ι' w' (.ptr id 0) u ∧ [(id, E.box t c)] = [(id, e)] ∧ Turn F none' ι w (updE σ id (some e)) ι' w' := by
  intro τ c hτ hr
  have hrun : (Instr.alloc t true (.tuple #[])).run P w = .ok (.pointer (some ⟨w.heap.size, 0, none⟩)) (w.alloc (.cells τ.zc.toArray t)) := by
   unfold Instr.alloc
   simp only [Sem.run_bind, run_zeroValue K hτ w, Result.andThen_ok, run_newVar, Sem.run_pure]
   rw [mkVal_zc_cells K ⟨_, hτ⟩]
  exact ⟨_, _, _, _, hrun, repV_ptr_mk (updL_same _ _ _), rfl, Turn.box H hid hr t⟩
 unfold evAlloc at hev
 split at hev
 ·rename_i fs ht
  split at hev
  ·cases hb : buildP fs 0 [] with
   | none => rw [hb] at hev; cases hev
   | some c =>
     rw [hb, Option.bind_some] at hev
     obtain rfl := Option.some.inj hev
     exact ⟨rfl, fin ht (by rw [T.zc]; exact buildP_zero hb)⟩
  ·obtain rfl := Option.some.inj hev
   exact ⟨rfl, fin ht (by rw [repC]; exact ⟨T.zc _, [], (List.append_nil _).symm, by rw [repC]; exact rep_zero _ _ _, by rw [repC]⟩)⟩
 ·rename_i τ hne ht
  split at hev
  ·obtain rfl := Option.some.inj hev
   exact ⟨rfl, fin ht (by rw [repC]; exact ⟨T.zc _, [], (List.append_nil _).symm, zeroPart_sound, by rw [repC]⟩)⟩
  ·obtain rfl := Option.some.inj hev
   exact ⟨rfl, fin ht (by rw [repC]; exact ⟨T.zc _, [], (List.append_nil _).symm, by rw [repC]; exact rep_zero _ _ _, by rw [repC]⟩)⟩
 ·cases hev
theorem repV_tup {l : V} {v : Value} (h : repV I ι w (.tup l) v) : ∃ vs, v = .tuple vs ∧ repT I ι w l vs.toList := h
theorem nthV_sound : ∀ {l : V} {i : Nat} {v : V} {vs : List Value}, nthV l i = some v → repT I ι w l vs → ∃ u, vs[i]? = some u ∧ ∃ cs, repC I ι w v cs ∧ u = mkVal v.isAgg cs := by
 intro l
 induction l with
 | vcons a b ih1 ih2 =>
   intro i v vs h hr
   rw [repT] at hr
   obtain ⟨u, vs', rfl, h1, h2⟩ := hr
   cases i with
   | zero => rw [nthV] at h; obtain rfl := Option.some.inj h; exact ⟨u, rfl, h1⟩
   | succ i => rw [nthV] at h; have := ih2 h h2; simpa using this
 | _ => intro i v vs h hr; simp only [repT] at hr <;> cases h
theorem repV_of_cells {v : V} {u : Value} (h : ∃ cs, repC I ι w v cs ∧ u = mkVal v.isAgg cs) : repV I ι w v u := by
 cases v with
 | un => trivial
 | tup l => obtain ⟨cs, h1, _⟩ := h; rw [repC] at h1; exact h1.elim
 | _ => exact h
theorem evExtract_sound {x : V} {i : Nat} {o : Out} (hev : evExtract x i = some o) {va : Value} (ha : repV I ι w x va) :
 o.kill = [] ∧ o.upd = [] ∧ ∃ u, (Instr.extract va i).run P w = .ok u w ∧ repV I ι w o.v u := by
 unfold evExtract at hev
 split at hev
 ·rename_i l
  cases hn : nthV l i with
  | none => rw [hn] at hev; cases hev
  | some v =>
    rw [hn, Option.bind_some] at hev
    obtain rfl := Option.some.inj hev
    obtain ⟨vs, rfl, hr⟩ := repV_tup ha
    obtain ⟨u, h1, h2⟩ := nthV_sound hn hr
    refine ⟨rfl, rfl, u, ?_, repV_of_cells h2⟩
    have : vs[i]? = some u := by simpa using h1
    simp [Instr.extract, this]
 ·cases hev
theorem evConvert_sound (K : TyOk P X) {src dst : TypeId} {x : V} {o : Out} (hev : evConvert X src dst x = some o) {va : Value} (ha : repV I ι w x va) :
 o.kill = [] ∧ o.upd = [] ∧ ∃ u, (convert src dst va).run P w = .ok u w ∧ repV I ι w o.v u := by
 unfold evConvert at hev
 split at hev
 ·rename_i ts k k' n hs hd
  obtain rfl := Option.some.inj hev
  obtain ⟨rfl, hn⟩ := repV_int ha
  obtain ⟨ds, hus, _⟩ := K.und hs
  obtain ⟨dd, hud, hsh⟩ := K.und hd
  refine ⟨rfl, rfl, .int k (wrapI k n), ?_, repV_int_mk (wrap_in _ _)⟩
  cases dd with
  | int k2 =>
    have : k2 = k := by simpa [shapeOk] using hsh
    subst this
    simp [convert, run_underlying hus, run_underlying hud, Conv.intToInt, wrapI]
  | _ => cases hsh
 ·cases hev
end
end Go.Sw

namespace Go.Sw
section
variable {P : Program} {X : Ctx} {F : Nat → Prop} {σ : Nat → Option E} {ι : Nat → Loc} {w : World} {I : Nat → Prop}
def ivV (p : IntKind × Int) : Value := .int p.1 p.2
theorem run_cut (w : World) (isSlice : Bool) (len cap : Nat) (hlc : len ≤ cap) (lo hi mx : Option (IntKind × Int)) (hc : AllTrue (evCut len (lo.map (·.2)) (hi.map (·.2)) (mx.map (·.2))).2.2) :
 ∃ M : Nat, (Instr.sliceBounds isSlice len cap (lo.map ivV) (hi.map ivV) (mx.map ivV)).run P w =
  .ok ((evCut len (lo.map (·.2)) (hi.map (·.2)) (mx.map (·.2))).1.toNat, (evCut len (lo.map (·.2)) (hi.map (·.2)) (mx.map (·.2))).2.1.toNat, M) w ∧
  (0 ≤ (evCut len (lo.map (·.2)) (hi.map (·.2)) (mx.map (·.2))).1 ∧ (evCut len (lo.map (·.2)) (hi.map (·.2)) (mx.map (·.2))).1 ≤ (evCut len (lo.map (·.2)) (hi.map (·.2)) (mx.map (·.2))).2.1 ∧
    (evCut len (lo.map (·.2)) (hi.map (·.2)) (mx.map (·.2))).2.1 ≤ (len : Int)) ∧ (evCut len (lo.map (·.2)) (hi.map (·.2)) (mx.map (·.2))).2.1 ≤ (M : Int) ∧ M ≤ cap ∧ (mx = none → M = cap) := by
 match lo, hi, mx with
 | none, none, none => exact ⟨cap, by simp [Instr.sliceBounds, evCut], by simp [evCut], by simp [evCut]; omega, Nat.le_refl _, fun _ => rfl⟩
 | some (kl, l), none, none =>
   obtain ⟨h1, h2, _⟩ := hc
   simp only [Option.map_some] at h1 h2
   refine ⟨cap, ?_, ⟨h1, h2, Int.le_refl _⟩, by simp [evCut]; omega, Nat.le_refl _, fun _ => rfl⟩
   simp [Instr.sliceBounds, evCut, ivV, run_sliceBound w kl l len _ h1 h2]
 | none, some (kh, h), none =>
   obtain ⟨h1, h2, _⟩ := hc
   simp only [Option.map_some] at h1 h2
   refine ⟨cap, ?_, ⟨Int.le_refl _, h1, h2⟩, by simp [evCut]; omega, Nat.le_refl _, fun _ => rfl⟩
   simp [Instr.sliceBounds, evCut, ivV, run_sliceBound w kh h cap _ h1 (by omega)]
 | some (kl, l), some (kh, h), none =>
   obtain ⟨h1, h2, h3, _⟩ := hc
   simp only [Option.map_some] at h1 h2 h3
   refine ⟨cap, ?_, ⟨h1, h2, h3⟩, by simp [evCut]; omega, Nat.le_refl _, fun _ => rfl⟩
   simp [Instr.sliceBounds, evCut, ivV, run_sliceBound w kh h cap _ (by omega) (by omega), run_sliceBound w kl l h.toNat _ h1 (by omega)]
 | none, none, some _ => exact hc.1.elim
 | some _, none, some _ => exact hc.1.elim
 | none, some (kh, h), some (km, m) =>
   obtain ⟨h1, h2, h3, _⟩ := hc
   simp only [Option.map_some] at h1 h2 h3
   refine ⟨m.toNat, ?_, ⟨Int.le_refl _, h1, by simp [evCut]; omega⟩, by simp [evCut]; omega, by omega, by simp⟩
   simp [Instr.sliceBounds, evCut, ivV, run_sliceBound w km m cap _ (by omega) (by omega), run_sliceBound w kh h m.toNat _ (by omega) (by omega)]
 | some (kl, l), some (kh, h), some (km, m) =>
   obtain ⟨h1, h2, h3, h4, _⟩ := hc
   simp only [Option.map_some] at h1 h2 h3 h4
   refine ⟨m.toNat, ?_, ⟨h1, h2, by simp [evCut]; omega⟩, by simp [evCut]; omega, by omega, by simp⟩
   simp [Instr.sliceBounds, evCut, ivV, run_sliceBound w km m cap _ (by omega) (by omega), run_sliceBound w kh h m.toNat _ (by omega) (by omega), run_sliceBound w kl l h.toNat _ h1 (by omega)]
def OptRep (I : Nat → Prop) (ι : Nat → Loc) (w : World) (x : Option V) (v : Option Value) : Prop :=
 match x, v with
 | none, none => True
 | some x, some v => repV I ι w x v
 | _, _ => False
theorem intOf_sound {x : Option V} {n : Option Int} (h : intOf x = some n) {v : Option Value} (hv : OptRep I ι w x v) : ∃ p : Option (IntKind × Int), v = p.map ivV ∧ n = p.map (·.2) := by
 cases x with
 | none =>
   obtain rfl := Option.some.inj h
   cases v with
   | none => exact ⟨none, rfl, rfl⟩
   | some v => exact hv.elim
 | some x =>
   unfold intOf at h
   split at h
   ·rename_i hx; cases hx
   ·rename_i k m hx
    obtain rfl := Option.some.inj hx
    obtain rfl := Option.some.inj h
    cases v with
    | none => exact hv.elim
    | some v =>
      obtain ⟨rfl, _⟩ := repV_int hv
      exact ⟨some (k, m), rfl, rfl⟩
   ·cases h
theorem repL_cut {α : Type} {R : α → List Value → Prop} {s : Nat} (hR : ∀ x cs, R x cs → cs.length = s) {l : List α} {cs : List Value} (h : repL R l cs) (a b : Nat) (hab : a ≤ b) (hb : b ≤ l.length) :
 ∃ c1 c2 c3, cs = c1 ++ c2 ++ c3 ∧ c1.length = a * s ∧ repL R ((l.take b).drop a) c2 := by
 have e1 : l = l.take b ++ l.drop b := by simp
 rw [e1] at h
 obtain ⟨c12, c3, rfl, h12, h3⟩ := repL_split h
 have e2 : l.take b = (l.take b).take a ++ (l.take b).drop a := by simp
 rw [e2] at h12
 obtain ⟨c1, c2, rfl, h1, h2⟩ := repL_split h12
 refine ⟨c1, c2, c3, rfl, ?_, h2⟩
 rw [repL_length hR h1]
 congr 1
 simp
 omega
theorem cutL_eq {α : Type} (l : List α) (lo hi mx : Option Int) (hc : AllTrue (evCut (l.length : Int) lo hi mx).2.2) :
 cutL l lo hi = (l.take (evCut (l.length : Int) lo hi mx).2.1.toNat).drop (evCut (l.length : Int) lo hi mx).1.toNat := by
 match lo, hi, mx with
 | none, none, none => simp [cutL, evCut]
 | some l', none, none => simp [cutL, evCut]
 | none, some h, none => simp [cutL, evCut]
 | some l', some h, none => simp [cutL, evCut]
 | none, none, some _ => exact hc.1.elim
 | some _, none, some _ => exact hc.1.elim
 | none, some h, some m => simp [cutL, evCut]
 | some l', some h, some m => simp [cutL, evCut]
theorem cutS_eq (s : ByteArray) (lo hi : Option Int) : cutS s lo hi = s.extract (evCut (s.size : Int) lo hi none).1.toNat (evCut (s.size : Int) lo hi none).2.1.toNat := by
 match lo, hi with
 | none, none => simp [cutS, evCut]
 | some l', none => simp [cutS, evCut]
 | none, some h => simp [cutS, evCut]
 | some l', some h => simp [cutS, evCut]
theorem run_slice_of (K : TyOk P X) {t : TypeId} {te : T} (ht : X.ty t = some (.sl te)) (w : World) (base : Option Addr) (len cap : Nat) {lo hi mx : Option Value} {L H M : Nat}
 (hb : (Instr.sliceBounds true len cap lo hi mx).run P w = .ok (L, H, M) w) :
 (Instr.sliceAt t (.slice base len cap) lo hi mx).run P w = .ok (.slice (if M = L then base else base.map (·.add (L * te.size))) (H - L) (M - L)) w := by
 obtain ⟨hu, hte, hsz⟩ := K.slice ht
 unfold Instr.sliceAt
 simp only [Sem.run_bind, run_underlying hu, Result.andThen_ok]
 unfold Instr.slice
 simp only [Sem.run_bind, run_underlying hu, Result.andThen_ok, hb, run_sizeOf K hte w, Sem.run_pure]
theorem evSlice_sound (K : TyOk P X) {t : TypeId} {x : V} {lo hi mx : Option V} {o : Out} (hev : evSlice X t x lo hi mx = some o) (hc : AllTrue o.c) {va : Value} {vl vh vm : Option Value}
 (ha : repV I ι w x va) (hl : OptRep I ι w lo vl) (hh : OptRep I ι w hi vh) (hm : OptRep I ι w mx vm) :
 o.kill = [] ∧ o.upd = [] ∧ ∃ u, (Instr.sliceAt t va vl vh vm).run P w = .ok u w ∧ repV I ι w o.v u := by
 unfold evSlice at hev
 cases h1 : intOf lo with
 | none => rw [h1] at hev; cases hev
 | some l =>
 cases h2 : intOf hi with
 | none => rw [h1, h2] at hev; cases hev
 | some h =>
 cases h3 : intOf mx with
 | none => rw [h1, h2, h3] at hev; cases hev
 | some m =>
 rw [h1, h2, h3] at hev
 simp only [Option.bind_some] at hev
 obtain ⟨pl, rfl, rfl⟩ := intOf_sound h1 hl
 obtain ⟨ph, rfl, rfl⟩ := intOf_sound h2 hh
 obtain ⟨pm, rfl, rfl⟩ := intOf_sound h3 hm
 split at hev
 ·rename_i te xs
  split at hev
  ·rename_i ht
   obtain rfl := Option.some.inj hev
   obtain ⟨base, cap, rfl, hle, hcap, hbase⟩ := repV_sl ha
   obtain ⟨M, hrun, ⟨g1, g2, g3⟩, g4, g5, g6⟩ := run_cut (P := P) w true (List.length xs) cap hle pl ph pm hc
   have hr := run_slice_of K ht w base (List.length xs) cap hrun
   have hcut := cutL_eq (α := te.D) xs (pl.map (·.2)) (ph.map (·.2)) (pm.map (·.2)) hc
   refine ⟨rfl, rfl, _, hr, ⟨[.slice _ _ _], ?_, rfl⟩⟩
   rw [repC, rep, hcut]
   generalize (evCut (List.length xs) (pl.map (·.2)) (ph.map (·.2)) (pm.map (·.2))).1 = L at *
   generalize (evCut (List.length xs) (pl.map (·.2)) (ph.map (·.2)) (pm.map (·.2))).2.1 = H at *
   have hlen : List.length (((xs : List te.D).take H.toNat).drop L.toNat) = H.toNat - L.toNat := by
    simp only [List.length_drop, List.length_take]
    omega
   refine ⟨if M = L.toNat then base else base.map (·.add (L.toNat * te.size)), M - L.toNat, ?_, ?_, by omega, fun hne => ?_⟩
   ·show [Value.slice _ _ _] = [Value.slice _ _ _]
    rw [hlen]
   ·rw [hlen]; omega
   ·have hpos : 0 < H.toNat - L.toNat := by
     rw [← hlen]
     exact List.length_pos_iff.2 hne
    have hxs : (xs : List te.D) ≠ [] := by
     intro hx
     have : List.length (α := te.D) xs = 0 := by rw [hx]; rfl
     omega
    obtain ⟨b, o, es, rfl, hI, hA, hL⟩ := hbase hxs
    obtain ⟨c1, c2, c3, rfl, hc1, hc2⟩ := repL_cut (fun _ _ => rep_length) hL L.toNat H.toNat (by omega) (by omega)
    have hA' := hA.of_split
    rw [hc1] at hA'
    refine ⟨b, o + L.toNat * te.size, c2, ?_, hI, hA', hc2⟩
    rw [if_neg (by omega)]
    simp [addr_add]
  ·cases hev
 ·rename_i s
  split at hev
  ·rename_i ht
   obtain rfl := Option.some.inj hev
   obtain ⟨rfl, hsz⟩ := repV_str ha
   have hpm : pm = none := by cases pm with | none => rfl | some p => cases ht.2
   subst hpm
   obtain ⟨M, hrun, ⟨g1, g2, g3⟩, g4, g5, g6⟩ := run_cut (P := P) w false s.size s.size (Nat.le_refl _) pl ph none hc
   obtain ⟨d, hd, hs⟩ := K.und ht.1
   have hd' : P.underlying t = some .string := by cases d <;> first | exact hd | (cases hs; done)
   refine ⟨rfl, rfl, .string (cutS s (pl.map (·.2)) (ph.map (·.2))), ?_, repV_str_mk ?_⟩
   ·rw [cutS_eq]
    unfold Instr.sliceAt
    simp only [Sem.run_bind, run_underlying hd', Result.andThen_ok]
    unfold Instr.slice
    simp only [Sem.run_bind, run_underlying hd', Result.andThen_ok]
    simp only [Option.map_none] at hrun
    simp [hrun]
   ·rw [cutS_eq, ByteArray.size_extract]
    omega
  ·cases hev
 ·cases hev
theorem vec_slice (H : HoldsE F σ ι w) {k : Nat} {te : T} {e : Nat} {l : List te.D} (hl : vecOf σ k te = some (e, l)) {va : Value} (ha : repV (Imm F ι w) ι w (.vec k te) va) :
 (ι k = .nilv ∧ va = .slice none 0 0 ∧ l = []) ∨ ∃ B cap, ι k = .blk B l.length ∧ va = .slice (some ⟨B, 0, none⟩) l.length cap ∧ l.length ≤ cap ∧ (cap : Int) ≤ 9223372036854775807 ∧ cap * te.size = blkSize w B := by
 obtain ⟨cs, h1, h2⟩ := ha
 rw [repC] at h1
 have he := H.ents k _ (vecOf_some hl)
 rcases h1 with ⟨h3, rfl⟩ | ⟨B, n, cap, h3, rfl, h4, h5, h6⟩
 ·rw [h3] at he
  exact .inl ⟨h3, h2, he⟩
 ·have := (H.vec (vecOf_some hl) h3).1
  subst this
  exact .inr ⟨B, cap, h3, h2, h4, h5, h6⟩
theorem evSliceV_sound (K : TyOk P X) (HE : HoldsE F σ ι w) {t : TypeId} {x : V} {lo hi mx : Option V} {o : Out} (hev : evSliceV X σ t x lo hi mx = some o) (hc : AllTrue o.c) {va : Value} {vl vh vm : Option Value}
 (ha : repV (Imm F ι w) ι w x va) (hl : OptRep (Imm F ι w) ι w lo vl) (hh : OptRep (Imm F ι w) ι w hi vh) (hm : OptRep (Imm F ι w) ι w mx vm) :
 o.kill = [] ∧ o.upd = [] ∧ ∃ u, (Instr.sliceAt t va vl vh vm).run P w = .ok u w ∧ repV (Imm F ι w) ι w o.v u := by
 unfold evSliceV at hev
 cases h1 : intOf lo with
 | none => rw [h1] at hev; cases hev
 | some l =>
 cases h2 : intOf hi with
 | none => rw [h1, h2] at hev; cases hev
 | some h =>
 cases h3 : intOf mx with
 | none => rw [h1, h2, h3] at hev; cases hev
 | some m =>
 rw [h1, h2, h3] at hev
 simp only [Option.bind_some] at hev
 obtain ⟨pl, rfl, rfl⟩ := intOf_sound h1 hl
 obtain ⟨ph, rfl, rfl⟩ := intOf_sound h2 hh
 obtain ⟨pm, rfl, rfl⟩ := intOf_sound h3 hm
 split at hev
 ·rename_i k te
  cases hv : vecOf σ k te with
  | none => rw [hv] at hev; cases hev
  | some p =>
    obtain ⟨e, l⟩ := p
    rw [hv, Option.bind_some] at hev
    split at hev
    ·rename_i ht
     obtain rfl := Option.some.inj hev
     have hpm : pm = none := by cases pm with | none => rfl | some p => cases ht.2
     subst hpm
     rcases vec_slice HE hv ha with ⟨hk, rfl, rfl⟩ | ⟨B, cap, hk, rfl, hle, hcap, hsz⟩
     ·-- a nil row has no block: no part of it is named
      exact absurd hc.1 (by simp)
     ·obtain ⟨M, hrun, ⟨g1, g2, g3⟩, g4, g5, g6⟩ := run_cut (P := P) w true l.length cap hle pl ph none hc.2
      have hr := run_slice_of K ht.1 w (some ⟨B, 0, none⟩) l.length cap hrun
      refine ⟨rfl, rfl, _, hr, ⟨[.slice _ _ _], ?_, rfl⟩⟩
      rw [repC]
      dsimp only
      refine ⟨B, l.length, _, M - (evCut (l.length : Int) (pl.map (·.2)) (ph.map (·.2)) (Option.map (·.2) (none : Option (IntKind × Int)))).1.toNat, hk, rfl, fun hpos => ?_, ?_, by omega, ?_⟩
      ·rw [if_neg (by omega)]
       simp [addr_add]
      ·omega
      ·omega
    ·cases hev
 ·rename_i k te off len
  split at hev
  ·rename_i ht
   obtain rfl := Option.some.inj hev
   have hpm : pm = none := by cases pm with | none => rfl | some p => cases ht.2
   subst hpm
   obtain ⟨cs, h4, h5⟩ := ha
   rw [repC] at h4
   obtain ⟨B, n, base, cap, hk, rfl, hbase, hle, hcap, hn⟩ := h4
   subst h5
   obtain ⟨M, hrun, ⟨g1, g2, g3⟩, g4, g5, g6⟩ := run_cut (P := P) w true len cap hle pl ph none hc
   have hr := run_slice_of K ht.1 w base len cap hrun
   refine ⟨rfl, rfl, _, hr, ⟨[.slice _ _ _], ?_, rfl⟩⟩
   rw [repC]
   refine ⟨B, n, _, M - (evCut (len : Int) (pl.map (·.2)) (ph.map (·.2)) (Option.map (·.2) (none : Option (IntKind × Int)))).1.toNat, hk, rfl, fun hpos => ?_, ?_, by omega, ?_⟩
   ·rw [if_neg (by omega), hbase (by omega)]
    simp [addr_add, Nat.add_mul]
   ·omega
   ·omega
  ·cases hev
 ·cases hev
end
end Go.Sw

namespace Go.Sw
section
variable {P : Program} {X : Ctx} {F : Nat → Prop} {σ : Nat → Option E} {ι : Nat → Loc} {w : World} {I : Nat → Prop}
theorem fieldsOk_foff : ∀ {fields : List Field} {off : Nat} {fs : T} {i : Nat} {p : Nat × T}, fieldsOk X fields off fs = true → T.foff fs i = some p →
 ∃ f, fields[i]? = some f ∧ f.offset = off + p.1 ∧ X.ty f.type = some p.2 ∧ 0 < p.2.size := by
 intro fields
 induction fields with
 | nil => intro off fs i p h; cases fs <;> cases h
 | cons f fields ih =>
   intro off fs i p h hf
   cases fields with
   | nil =>
     cases fs with
     | one t =>
       simp only [fieldsOk, Bool.and_eq_true, beq_iff_eq, decide_eq_true_eq] at h
       cases i with
       | zero => rw [T.foff] at hf; obtain rfl := Option.some.inj hf; exact ⟨f, rfl, by simp [h.1.1], h.1.2, h.2⟩
       | succ i => cases hf
     | _ => cases h
   | cons g fields =>
     cases fs with
     | cons t ts =>
       simp only [fieldsOk, Bool.and_eq_true, beq_iff_eq, decide_eq_true_eq] at h
       cases i with
       | zero => rw [T.foff] at hf; obtain rfl := Option.some.inj hf; exact ⟨f, rfl, by simp [h.1.1.1], h.1.1.2, h.1.2⟩
       | succ i =>
         rw [T.foff] at hf
         cases hq : T.foff ts i with
         | none => rw [hq] at hf; cases hf
         | some q =>
           rw [hq] at hf
           obtain rfl := Option.some.inj hf
           obtain ⟨f', h1, h2, h3, h4⟩ := ih h.2 hq
           exact ⟨f', by simpa using h1, by rw [h2]; simp only; omega, h3, h4⟩
     | _ => cases h
theorem arrayOk_foff {te : T} : ∀ {n : Nat} {fs : T} {i : Nat} {p : Nat × T}, arrayOk te n fs = true → T.foff fs i = some p → p.1 = i * te.size ∧ p.2 = te ∧ i < n := by
 intro n
 induction n with
 | zero => intro fs i p h; cases fs <;> cases h
 | succ n ih =>
   intro fs i p h hf
   cases n with
   | zero =>
     cases fs with
     | one t =>
       simp only [arrayOk, decide_eq_true_eq] at h
       subst h
       cases i with
       | zero => rw [T.foff] at hf; obtain rfl := Option.some.inj hf; exact ⟨by simp, rfl, by omega⟩
       | succ i => cases hf
     | _ => cases h
   | succ n =>
     cases fs with
     | cons t ts =>
       simp only [arrayOk, Bool.and_eq_true, decide_eq_true_eq] at h
       obtain ⟨rfl, h2⟩ := h
       cases i with
       | zero => rw [T.foff] at hf; obtain rfl := Option.some.inj hf; exact ⟨by simp, rfl, by omega⟩
       | succ i =>
         rw [T.foff] at hf
         cases hq : T.foff ts i with
         | none => rw [hq] at hf; cases hf
         | some q =>
           rw [hq] at hf
           obtain rfl := Option.some.inj hf
           obtain ⟨h3, h4, h5⟩ := ih h2 hq
           exact ⟨by simp only [h3, Nat.add_mul]; omega, h4, by omega⟩
     | _ => cases h
theorem fldPt_sound : ∀ {fs : T} {x : fs.D} {i : Nat} {v : V}, T.fldPt fs x i = some v → ∃ p, T.foff fs i = some p ∧
 ∀ {b o : Nat} {es : List Value}, I b → At w b o es → rep I w fs x es → repV I ι w v (.pointer (some ⟨b, o + p.1, none⟩)) := by
 intro fs
 induction fs with
 | one t ih =>
   intro x i v h
   cases i with
   | zero =>
     rw [T.fldPt] at h
     obtain rfl := Option.some.inj h
     refine ⟨_, rfl, fun hI hA hr => ⟨[.pointer _], ?_, rfl⟩⟩
     rw [repC]
     rw [rep] at hr
     exact ⟨_, _, _, rfl, hI, hA, hr⟩
   | succ i => cases h
 | cons t ts ih1 ih2 =>
   intro x i v h
   cases i with
   | zero =>
     rw [T.fldPt] at h
     obtain rfl := Option.some.inj h
     refine ⟨_, rfl, fun hI hA hr => ?_⟩
     rw [rep] at hr
     obtain ⟨c1, c2, rfl, h1, h2⟩ := hr
     refine ⟨[.pointer _], ?_, rfl⟩
     rw [repC]
     exact ⟨_, _, _, rfl, hI, hA.left, h1⟩
   | succ i =>
     rw [T.fldPt] at h
     obtain ⟨p, hp, hall⟩ := ih2 h
     refine ⟨(t.size + p.1, p.2), by rw [T.foff, hp]; rfl, fun {b o es} hI hA hr => ?_⟩
     rw [rep] at hr
     obtain ⟨c1, c2, rfl, h1, h2⟩ := hr
     have hA2 := hA.right
     rw [rep_length h1] at hA2
     have := hall hI hA2 h2
     rwa [show o + t.size + p.1 = o + (t.size + p.1) from by omega] at this
 | _ => intro x i v h; cases i <;> cases h
theorem fld_sound : ∀ {fs : T} {x : fs.D} {i : Nat} {v : V}, T.fld fs x i = some v → ∃ p y, T.foff fs i = some p ∧ v = .d p.2 y ∧
 ∀ {es : List Value}, rep I w fs x es → ∃ pre cs post, es = pre ++ cs ++ post ∧ pre.length = p.1 ∧ rep I w p.2 y cs := by
 intro fs
 induction fs with
 | one t ih =>
   intro x i v h
   cases i with
   | zero =>
     rw [T.fld] at h
     obtain rfl := Option.some.inj h
     exact ⟨(0, t), x, rfl, rfl, fun {es} hr => ⟨[], es, [], by simp, rfl, by rw [rep] at hr; exact hr⟩⟩
   | succ i => cases h
 | cons t ts ih1 ih2 =>
   intro x i v h
   cases i with
   | zero =>
     rw [T.fld] at h
     obtain rfl := Option.some.inj h
     refine ⟨(0, t), x.1, rfl, rfl, fun {es} hr => ?_⟩
     rw [rep] at hr
     obtain ⟨c1, c2, rfl, h1, h2⟩ := hr
     exact ⟨[], c1, c2, by simp, rfl, h1⟩
   | succ i =>
     rw [T.fld] at h
     obtain ⟨p, y, hp, rfl, hall⟩ := ih2 h
     refine ⟨(t.size + p.1, p.2), y, by rw [T.foff, hp]; rfl, rfl, fun {es} hr => ?_⟩
     rw [rep] at hr
     obtain ⟨c1, c2, rfl, h1, h2⟩ := hr
     obtain ⟨pre, cs, post, rfl, h3, h4⟩ := hall h2
     exact ⟨c1 ++ pre, cs, post, by simp, by simp [rep_length h1, h3], h4⟩
 | _ => intro x i v h; cases i <;> cases h
theorem TyOk.struct (K : TyOk P X) {s : TypeId} {fs : T} (ht : X.ty s = some (.st fs)) (hst : X.ar s = false) : ∃ fields : Array Field, P.underlying s = some (.struct fields) ∧ fieldsOk X fields.toList 0 fs = true := by
 obtain ⟨d, hd, hs⟩ := K.und ht
 have ha := K.ar s
 unfold arOk at ha
 rw [hst, hd, ht] at ha
 simp only [Option.isSome_some, Bool.not_true, Bool.false_or] at ha
 cases d with
 | struct fields => exact ⟨fields, hd, hs⟩
 | array n e => cases ha
 | _ => cases hs
theorem TyOk.array (K : TyOk P X) {s : TypeId} {fs : T} (ht : X.ty s = some (.st fs)) (hst : X.ar s = true) : ∃ n e te, P.underlying s = some (.array n e) ∧ X.ty e = some te ∧ arrayOk te n fs = true ∧ 0 < te.size := by
 obtain ⟨d, hd, hs⟩ := K.und ht
 have ha := K.ar s
 unfold arOk at ha
 rw [hst, hd, ht] at ha
 simp only [Option.isSome_some, Bool.not_true, Bool.false_or] at ha
 cases d with
 | array n e =>
   have hs' : (match X.ty e with | some te => arrayOk te n fs && decide (0 < te.size) | none => false) = true := hs
   cases hte : X.ty e with
   | none => rw [hte] at hs'; cases hs'
   | some te =>
     rw [hte] at hs'
     simp only [Bool.and_eq_true, decide_eq_true_eq] at hs'
     exact ⟨n, e, te, hd, hte, hs'.1, hs'.2⟩
 | struct fields => cases ha
 | _ => cases hs
theorem run_fieldAt (K : TyOk P X) {s : TypeId} {fs : T} (ht : X.ty s = some (.st fs)) {f : Nat} {p : Nat × T} (hp : T.foff fs f = some p) (hst : X.ar s = false) (w : World) (b o : Nat) :
 (Instr.fieldAt s (.pointer (some ⟨b, o, none⟩)) f).run P w = .ok (.pointer (some ⟨b, o + p.1, none⟩)) w := by
 obtain ⟨fields, hu, hf⟩ := K.struct ht hst
 obtain ⟨fd, h1, h2, h3, h4⟩ := fieldsOk_foff hf hp
 have h1' : fields[f]? = some fd := by simpa using h1
 unfold Instr.fieldAt
 simp only [Sem.run_bind, run_underlying hu, Result.andThen_ok, h1', Instr.sureAddr, Sem.run_pure]
 unfold fieldPlace
 simp only [Sem.run_bind, run_sizeOf K h3 w, Result.andThen_ok]
 rw [if_neg (by omega)]
 simp only [Sem.run_pure, Result.andThen_ok, addr_add, h2, Nat.zero_add]
theorem evFieldAddr_sound (K : TyOk P X) {s : TypeId} {x : V} {f : Nat} {o : Out} (hev : evFieldAddr X s x f = some o) {va : Value} (ha : repV I ι w x va) :
 o.kill = [] ∧ o.upd = [] ∧ ∃ u, (Instr.fieldAt s va f).run P w = .ok u w ∧ repV I ι w o.v u := by
 unfold evFieldAddr at hev
 split at hev
 ·rename_i fs ht
  split at hev
  ·cases hev
  ·rename_i har
   have hst : X.ar s = false := by simpa using har
   split at hev
   ·rename_i k off
    cases hp : T.foff fs f with
    | none => rw [hp] at hev; cases hev
    | some p =>
      rw [hp, Option.bind_some] at hev
      obtain rfl := Option.some.inj hev
      obtain ⟨B, n, hB, rfl⟩ := repV_ptr ha
      exact ⟨rfl, rfl, _, run_fieldAt K ht hp hst w B off, repV_ptr_mk hB⟩
   ·rename_i gs y
    split at hev
    ·rename_i hg
     subst hg
     cases hv : T.fldPt gs y f with
     | none => rw [hv] at hev; cases hev
     | some v =>
       rw [hv, Option.bind_some] at hev
       obtain rfl := Option.some.inj hev
       obtain ⟨cs, h1, h2⟩ := ha
       rw [repC] at h1
       obtain ⟨b, o, es, rfl, hI, hA, hr⟩ := h1
       rw [rep] at hr
       obtain ⟨p, hp, hall⟩ := fldPt_sound hv
       subst h2
       exact ⟨rfl, rfl, _, run_fieldAt K ht hp hst w b o, hall hI hA hr⟩
    ·cases hev
   ·rename_i k u i off
    cases hp : T.foff fs f with
    | none => rw [hp] at hev; cases hev
    | some p =>
      rw [hp, Option.bind_some] at hev
      obtain rfl := Option.some.inj hev
      obtain ⟨cs, h1, h2⟩ := ha
      rw [repC] at h1
      obtain ⟨B, n, hB, rfl⟩ := h1
      subst h2
      refine ⟨rfl, rfl, _, run_fieldAt K ht hp hst w B _, ⟨[.pointer _], ?_, rfl⟩⟩
      rw [repC]
      exact ⟨B, n, hB, by rw [Nat.add_assoc]⟩
   ·cases hev
 ·cases hev
theorem run_part (K : TyOk P X) {tid : TypeId} {t : T} (ht : X.ty tid = some t) (w : World) {pre cs post : List Value} (hl : cs.length = t.size) :
 (part tid (pre ++ cs ++ post).toArray pre.length).run P w = .ok (mkVal t.isAgg cs) w := by
 unfold part
 simp only [Sem.run_bind, run_isAgg K ht w, Result.andThen_ok]
 cases hag : t.isAgg with
 | true =>
   simp only [if_true, Sem.run_bind, run_sizeOf K ht w, Result.andThen_ok, Sem.run_pure]
   congr 2
   apply Array.ext'
   simp only [List.extract_toArray, mkVal]
   rw [← hl]
   simp [List.take_append, List.drop_append]
 | false =>
   have h1 := K.nonagg ht hag
   rw [h1] at hl
   match cs, hl with
   | [c], _ => simp [mkVal]
theorem evField_sound (K : TyOk P X) {s : TypeId} {x : V} {f : Nat} {o : Out} (hev : evField X s x f = some o) {va : Value} (ha : repV I ι w x va) :
 o.kill = [] ∧ o.upd = [] ∧ ∃ u, (Instr.field s va f).run P w = .ok u w ∧ repV I ι w o.v u := by
 unfold evField at hev
 split at hev
 ·rename_i gs y
  split at hev
  ·rename_i ht
   cases hv : T.fld gs y f with
   | none => rw [hv] at hev; cases hev
   | some v =>
     rw [hv, Option.bind_some] at hev
     obtain rfl := Option.some.inj hev
     obtain ⟨es, hr, rfl⟩ := repV_d ha
     rw [rep] at hr
     obtain ⟨p, z, hp, rfl, hall⟩ := fld_sound (w := w) (I := I) hv
     obtain ⟨pre, cs, post, rfl, hpl, hz⟩ := hall hr
     obtain ⟨fields, hu, hf⟩ := K.struct ht.1 ht.2
     obtain ⟨fd, h1, h2, h3, h4⟩ := fieldsOk_foff hf hp
     have h1' : fields[f]? = some fd := by simpa using h1
     refine ⟨rfl, rfl, _, ?_, repV_d_mk hz⟩
     unfold Instr.field
     simp only [Sem.run_bind, run_underlying hu, Result.andThen_ok, h1', mkVal, T.isAgg, asAgg, Sem.run_pure]
     rw [show fd.offset = pre.length from by omega]
     exact run_part K h3 w (rep_length hz)
  ·cases hev
 ·rename_i c
  split at hev
  ·rename_i gs ht
   split at hev
   ·rename_i har
    cases hp : T.foff gs f with
    | none => rw [hp] at hev; cases hev
    | some p =>
      rw [hp, Option.bind_some] at hev
      cases hv : V.rd (some p.2) c p.1 with
      | none => rw [hv] at hev; cases hev
      | some v =>
        rw [hv, Option.bind_some] at hev
        obtain rfl := Option.some.inj hev
        obtain ⟨es, hr, rfl⟩ := ha
        rw [repC] at hr
        obtain ⟨pre, cs, post, rfl, hpl, hz, hd⟩ := V.rd_sound hv hr
        obtain ⟨fields, hu, hf⟩ := K.struct ht har
        obtain ⟨fd, h1, h2, h3, h4⟩ := fieldsOk_foff hf hp
        have h1' : fields[f]? = some fd := by simpa using h1
        have hlen : cs.length = p.2.size ∧ v.isAgg = p.2.isAgg ∧ repV I ι w v (mkVal v.isAgg cs) := by
         rcases hd with ⟨τ, z, hτ, rfl⟩ | ⟨hsg, hna⟩
         ·obtain rfl := Option.some.inj hτ
          exact ⟨repC_length hz, rfl, ⟨cs, hz, rfl⟩⟩
         ·have hl := repC_length hz
          have hcs : v.csize = 1 ∧ v.isAgg = false := by cases v <;> first | (cases hsg; done) | exact ⟨rfl, rfl⟩
          have hag : p.2.isAgg = false := by simpa using hna
          refine ⟨by rw [hl, hcs.1, K.nonagg h3 hag], by rw [hcs.2, hag], ?_⟩
          cases v <;> first | (cases hsg; done) | exact ⟨cs, hz, rfl⟩
        refine ⟨rfl, rfl, _, ?_, hlen.2.2⟩
        rw [hlen.2.1]
        unfold Instr.field
        simp only [Sem.run_bind, run_underlying hu, Result.andThen_ok, h1', V.isAgg, show ∀ l, mkVal true l = Value.agg l.toArray from fun _ => rfl, asAgg, Sem.run_pure]
        rw [show fd.offset = pre.length from by omega]
        exact run_part K h3 w hlen.1
   ·cases hev
  ·cases hev
 ·cases hev
theorem run_indexAt_sl (K : TyOk P X) {t : TypeId} {te : T} (ht : X.ty t = some (.sl te)) (w : World) (b o len cap : Nat) (k : IntKind) (n : Int) (h0 : 0 ≤ n) (h1 : n < (len : Int)) :
 (Instr.indexAt t (.slice (some ⟨b, o, none⟩) len cap) (.int k n)).run P w = .ok (.pointer (some ⟨b, o + n.toNat * te.size, none⟩)) w := by
 obtain ⟨hu, hte, hsz⟩ := K.slice ht
 unfold Instr.indexAt
 simp only [Sem.run_bind, asIntOf, Sem.run_pure, Result.andThen_ok, run_underlying hu]
 simp only [h0, h1, and_self, if_true, Sem.run_bind, run_sizeOf K hte w, Result.andThen_ok, Sem.run_pure, addr_add]
theorem run_indexAt_ar (K : TyOk P X) {t : TypeId} {fs : T} (ht : X.ty t = some (.st fs)) (har : X.ar t = true) (w : World) (b o : Nat) (k : IntKind) (n : Int) (h0 : 0 ≤ n) {p : Nat × T} (hp : T.foff fs n.toNat = some p) :
 (Instr.indexAt t (.pointer (some ⟨b, o, none⟩)) (.int k n)).run P w = .ok (.pointer (some ⟨b, o + p.1, none⟩)) w := by
 obtain ⟨m, e, te, hu, hte, hok, hsz⟩ := K.array ht har
 obtain ⟨h1, h2, h3⟩ := arrayOk_foff hok hp
 have h4 : n < (m : Int) := by omega
 unfold Instr.indexAt
 simp only [Sem.run_bind, asIntOf, Sem.run_pure, Result.andThen_ok, run_underlying hu, Instr.sureAddr]
 simp only [h0, h4, and_self, if_true, Sem.run_bind, run_sizeOf K hte w, Result.andThen_ok, Sem.run_pure, addr_add, h1]
theorem evIndexAddr_sound (K : TyOk P X) (H : HoldsE F σ ι w) {t : TypeId} {x i : V} {o : Out} (hev : evIndexAddr X σ t x i = some o) (hc : AllTrue o.c) {va vi : Value}
 (ha : repV (Imm F ι w) ι w x va) (hi : repV (Imm F ι w) ι w i vi) :
 o.kill = [] ∧ o.upd = [] ∧ ∃ u, (Instr.indexAt t va vi).run P w = .ok u w ∧ repV (Imm F ι w) ι w o.v u := by
 unfold evIndexAddr at hev
 split at hev
 ·rename_i k n
  obtain ⟨rfl, hn⟩ := repV_int hi
  split at hev
  ·rename_i te ht
   split at hev
   ·rename_i te' l
    split at hev
    ·rename_i he
     subst he
     obtain rfl := Option.some.inj hev
     obtain ⟨h0, h1, _⟩ := hc
     obtain ⟨base, cap, rfl, hle, hcap, hbase⟩ := repV_sl ha
     have hlt : toN n < List.length (α := te'.D) l := by unfold toN; omega
     have hne : (l : List te'.D) ≠ [] := by
      intro hx
      have : List.length (α := te'.D) l = 0 := by rw [hx]; rfl
      omega
     obtain ⟨b, o, es, rfl, hI, hA, hL⟩ := hbase hne
     obtain ⟨c1, c2, c3, rfl, hc1, hc2, hc3⟩ := repL_getD hL hlt te'.dflt
     have hl1 : c1.length = toN n * te'.size := by
      rw [repL_length (fun _ _ => rep_length) hc1]
      congr 1
      simp only [List.length_take]
      omega
     have hA' := hA.of_split
     rw [hl1] at hA'
     refine ⟨rfl, rfl, _, run_indexAt_sl K ht w b o _ cap k n h0 h1, ⟨[.pointer _], ?_, rfl⟩⟩
     rw [repC]
     exact ⟨b, _, c2, rfl, hI, hA', hc2⟩
    ·cases hev
   ·rename_i kk te'
    split at hev
    ·rename_i he
     subst he
     cases hv : vecOf σ kk te' with
     | none => rw [hv] at hev; cases hev
     | some p =>
       obtain ⟨e, l⟩ := p
       rw [hv, Option.bind_some] at hev
       obtain rfl := Option.some.inj hev
       obtain ⟨h0, h1, _⟩ := hc
       rcases vec_slice H hv ha with ⟨hk, rfl, rfl⟩ | ⟨B, cap, hk, rfl, hle, hcap, hsz⟩
       ·simp at h1; omega
       ·refine ⟨rfl, rfl, _, run_indexAt_sl K ht w B 0 _ cap k n h0 h1, ⟨[.pointer _], ?_, rfl⟩⟩
        rw [repC]
        exact ⟨B, _, hk, by simp [toN]⟩
    ·cases hev
   ·rename_i kk te' off len
    split at hev
    ·rename_i he
     subst he
     obtain rfl := Option.some.inj hev
     obtain ⟨h0, h1, _⟩ := hc
     obtain ⟨cs, h4, h5⟩ := ha
     rw [repC] at h4
     obtain ⟨B, m, base, cap, hk, rfl, hbase, hle, hcap, hm⟩ := h4
     subst h5
     rw [hbase (by omega)]
     refine ⟨rfl, rfl, _, run_indexAt_sl K ht w B _ _ cap k n h0 h1, ⟨[.pointer _], ?_, rfl⟩⟩
     rw [repC]
     exact ⟨B, _, hk, by simp [toN, Nat.add_mul]⟩
    ·cases hev
   ·cases hev
  ·rename_i fs ht
   split at hev
   ·rename_i har
    split at hev
    ·rename_i kk off
     cases hp : T.foff fs (toN n) with
     | none => rw [hp] at hev; cases hev
     | some p =>
       rw [hp, Option.bind_some] at hev
       obtain rfl := Option.some.inj hev
       obtain ⟨h0, _⟩ := hc
       obtain ⟨B, m, hB, rfl⟩ := repV_ptr ha
       exact ⟨rfl, rfl, _, run_indexAt_ar K ht har w B off k n h0 hp, repV_ptr_mk hB⟩
    ·rename_i gs y
     split at hev
     ·rename_i hg
      subst hg
      cases hv : T.fldPt gs y (toN n) with
      | none => rw [hv] at hev; cases hev
      | some v =>
        rw [hv, Option.bind_some] at hev
        obtain rfl := Option.some.inj hev
        obtain ⟨h0, _⟩ := hc
        obtain ⟨cs, h1, h2⟩ := ha
        rw [repC] at h1
        obtain ⟨b, o, es, rfl, hI, hA, hr⟩ := h1
        rw [rep] at hr
        obtain ⟨p, hp, hall⟩ := fldPt_sound hv
        subst h2
        exact ⟨rfl, rfl, _, run_indexAt_ar K ht har w b o k n h0 hp, hall hI hA hr⟩
     ·cases hev
    ·cases hev
   ·cases hev
  ·cases hev
 ·cases hev
end
end Go.Sw
