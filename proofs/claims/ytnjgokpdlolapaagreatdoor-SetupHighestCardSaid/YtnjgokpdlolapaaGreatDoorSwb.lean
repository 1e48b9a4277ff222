/- What regions, loops and calls of the code compute over plain data; no conditions. -/
import Derived.Test.YtnjgokpdlolapaaGreatDoorSwa
import Derived.Lib.UnsafeStr
import Derived.Lib.Builder
import Derived.Laws.IdiomStrings
import Derived.Laws.Externs
import Derived.Lib.Bytealg
import Derived.LaidEql
import Derived.KernelRfl
namespace Go.Sw
section
variable {P : Program} {X : Ctx} {F : Nat → Prop} {σ : Nat → Option E} {ι : Nat → Loc} {w : World} {I : Nat → Prop}
theorem evIndex_sound (K : TyOk P X) {t : TypeId} {x i : V} {o : Out} (hev : evIndex X t x i = some o) (hc : AllTrue o.c) {va vi : Value}
 (ha : repV I ι w x va) (hi : repV I ι w i vi) :
 o.kill = [] ∧ o.upd = [] ∧ ∃ u, (Instr.index t va vi).run P w = .ok u w ∧ repV I ι w o.v u := by
 unfold evIndex at hev
 split at hev
 ·rename_i s k n
  split at hev
  ·rename_i ht
   obtain rfl := Option.some.inj hev
   obtain ⟨h0, h1, _⟩ := hc
   obtain ⟨rfl, hs⟩ := repV_str ha
   obtain ⟨rfl, hn⟩ := repV_int hi
   obtain ⟨d, hd, hsh⟩ := K.und ht
   have hd' : P.underlying t = some .string := by cases d <;> first | exact hd | (cases hsh; done)
   have hlt : toN n < s.size := by unfold toN; omega
   have hg : s[toN n]? = some s[toN n] := by simp [hlt]
   have hgd : s.data.toList.getD (toN n) 0 = s[toN n] := by
    have h2 : toN n < s.data.toList.length := by simpa using hlt
    rw [List.getD_eq_getElem?_getD, List.getElem?_eq_getElem h2]
    simp
    rfl
   refine ⟨rfl, rfl, .int .u8 _, ?_, repV_int_mk (n := ofN (s.data.toList.getD (toN n) 0).toNat) ?_⟩
   ·unfold Instr.index
    simp only [Sem.run_bind, asIntOf, Sem.run_pure, Result.andThen_ok, run_underlying hd']
    have h0' : (0 : Int) ≤ n := h0
    rw [hgd]
    have hg' : s[Int.toNat n]? = some s[toN n] := hg
    simp only [h0', if_true, hg', Sem.run_pure]
    rfl
   ·have : (s.data.toList.getD (toN n) 0).toNat < 256 := UInt8.toNat_lt _
    generalize (s.data.toList.getD (toN n) 0).toNat = q at this ⊢
    simp only [ofN, IntKind.min, IntKind.max, IntKind.signed, IntKind.bits]
    simp
    omega
  ·cases hev
 ·rename_i gs y k n
  split at hev
  ·rename_i ht
   cases hv : T.fld gs y (toN n) with
   | none => rw [hv] at hev; cases hev
   | some v =>
     rw [hv, Option.bind_some] at hev
     obtain rfl := Option.some.inj hev
     obtain ⟨h0, _⟩ := hc
     obtain ⟨rfl, hn⟩ := repV_int hi
     obtain ⟨es, hr, rfl⟩ := repV_d ha
     rw [rep] at hr
     obtain ⟨p, z, hp, rfl, hall⟩ := fld_sound (w := w) (I := I) hv
     obtain ⟨pre, cs, post, rfl, hpl, hz⟩ := hall hr
     obtain ⟨m, e, te, hu, hte, hok, hsz⟩ := K.array ht.1 ht.2
     obtain ⟨h1, h2, h3⟩ := arrayOk_foff hok hp
     have h0' : (0 : Int) ≤ n := h0
     have aux : ∀ q : Int, 0 ≤ q → q.toNat < m → q < (m : Int) := by intro q h1 h2; omega
     have h4 : (n : Int) < (m : Int) := aux n h0 h3
     refine ⟨rfl, rfl, _, ?_, repV_d_mk hz⟩
     unfold Instr.index
     simp only [Sem.run_bind, asIntOf, Sem.run_pure, Result.andThen_ok, run_underlying hu, mkVal, T.isAgg]
     simp only [h0', h4, and_self, if_true, Sem.run_bind, run_sizeOf K hte w, Result.andThen_ok]
     have hpl' : Int.toNat n * te.size = pre.length := by rw [hpl, h1]; rfl
     rw [hpl']
     have hte' : X.ty e = some p.2 := by rw [h2]; exact hte
     exact run_part K hte' w (rep_length hz)
  ·cases hev
 ·cases hev
theorem i64_ofN {n : Nat} (h : (n : Int) ≤ 9223372036854775807) : IntKind.i64.min ≤ ofN n ∧ ofN n ≤ IntKind.i64.max := by
 simp only [ofN, IntKind.min, IntKind.max, IntKind.signed, IntKind.bits]
 simp
 omega
theorem evLen_sound (K : TyOk P X) (H : HoldsE F σ ι w) {t ty : TypeId} {x : V} {o : Out} (hev : evLen X σ t x = some o) {va : Value} (ha : repV (Imm F ι w) ι w x va) :
 o.kill = [] ∧ o.upd = [] ∧ ∃ u, (Builtin.len_ #[t] ty #[va]).run P w = .ok u w ∧ repV (Imm F ι w) ι w o.v u := by
 have run : ∀ {te : T} (base : Option Addr) (n c : Nat), X.ty t = some (.sl te) → (Builtin.len_ #[t] ty #[.slice base n c]).run P w = .ok (.int .i64 (ofN n)) w := by
  intro te base n c ht
  obtain ⟨hu, _⟩ := K.slice ht
  simp [Builtin.len_, run_underlying hu, goInt, ofN]
 unfold evLen at hev
 split at hev
 ·rename_i te te' l ht
  split at hev
  ·obtain rfl := Option.some.inj hev
   obtain ⟨base, cap, rfl, hle, hcap, hbase⟩ := repV_sl ha
   exact ⟨rfl, rfl, _, run base _ cap ht, repV_int_mk (i64_ofN (by omega))⟩
  ·cases hev
 ·rename_i te k te' ht
  split at hev
  ·cases hv : vecOf σ k te' with
   | none => rw [hv] at hev; cases hev
   | some p =>
     obtain ⟨e, l⟩ := p
     rw [hv, Option.bind_some] at hev
     obtain rfl := Option.some.inj hev
     rcases vec_slice H hv ha with ⟨hk, rfl, rfl⟩ | ⟨B, cap, hk, rfl, hle, hcap, hsz⟩
     ·exact ⟨rfl, rfl, _, run none 0 0 ht, repV_int_mk (n := ofN 0) (i64_ofN (by decide))⟩
     ·exact ⟨rfl, rfl, _, run _ _ cap ht, repV_int_mk (i64_ofN (by simp only; omega))⟩
  ·cases hev
 ·rename_i te k te' off len ht
  obtain rfl := Option.some.inj hev
  obtain ⟨cs, h4, h5⟩ := ha
  rw [repC] at h4
  obtain ⟨B, m, base, cap, hk, rfl, hbase, hle, hcap, hm⟩ := h4
  subst h5
  exact ⟨rfl, rfl, _, run base len cap ht, repV_int_mk (i64_ofN (by omega))⟩
 ·rename_i te ht
  obtain rfl := Option.some.inj hev
  obtain rfl := repV_nil ha
  exact ⟨rfl, rfl, _, run none 0 0 ht, repV_int_mk (i64_ofN (by decide))⟩
 ·rename_i s ht
  obtain rfl := Option.some.inj hev
  obtain ⟨rfl, hs⟩ := repV_str ha
  obtain ⟨d, hd, hsh⟩ := K.und ht
  have hd' : P.underlying t = some .string := by cases d <;> first | exact hd | (cases hsh; done)
  exact ⟨rfl, rfl, .int .i64 (ofN s.size), by simp [Builtin.len_, run_underlying hd', goInt, ofN], repV_int_mk (i64_ofN hs)⟩
 ·cases hev
def ArgsRep (I : Nat → Prop) (ι : Nat → Loc) (w : World) : List V → List Value → Prop
 | [], [] => True
 | x :: xs, v :: vs => repV I ι w x v ∧ ArgsRep I ι w xs vs
 | _, _ => False
theorem evMax_sound (w : World) {k : IntKind} {f : Int → Int → Int} {g : Value → Value → Sem Value} (hg : ∀ a k' b, g (.int k a) (.int k' b) = pure (.int k (f a b))) (hf : ∀ a b, k.min ≤ a ∧ a ≤ k.max → k.min ≤ b ∧ b ≤ k.max → k.min ≤ f a b ∧ f a b ≤ k.max) :
 ∀ {args : List V} {a n : Int} {vs : List Value}, evMax k f a args = some n → (k.min ≤ a ∧ a ≤ k.max) → ArgsRep I ι w args vs → (vs.foldlM g (.int k a)).run P w = .ok (.int k n) w ∧ (k.min ≤ n ∧ n ≤ k.max) := by
 intro args
 induction args with
 | nil =>
   intro a n vs h ha hr
   rw [evMax] at h
   obtain rfl := Option.some.inj h
   cases vs with
   | nil => exact ⟨rfl, ha⟩
   | cons v vs => exact hr.elim
 | cons x xs ih =>
   intro a n vs h ha hr
   cases vs with
   | nil => exact hr.elim
   | cons v vs =>
     unfold evMax at h
     split at h
     ·rename_i hx; cases hx
     ·rename_i a' k' b r hx
      injection hx with hx1 hx2
      subst hx1
      subst hx2
      split at h
      ·rename_i hk
       subst hk
       obtain ⟨rfl, hb⟩ := repV_int hr.1
       obtain ⟨h1, h2⟩ := ih h (hf _ _ ha hb) hr.2
       refine ⟨?_, h2⟩
       rw [List.foldlM_cons, hg]
       simpa using h1
      ·cases h
     ·cases h
theorem evMaxMin_sound {args : List V} {o : Out} {f : Int → Int → Int} {g : Value → Value → Sem Value} (hev : evMaxMin f args = some o) (hg : ∀ k a k' b, g (.int k a) (.int k' b) = pure (.int k (f a b)))
 (hf : ∀ a b, f a b = a ∨ f a b = b) {vs : List Value} (hr : ArgsRep I ι w args vs) :
 o.kill = [] ∧ o.upd = [] ∧ ∃ v r u, vs = v :: r ∧ (r.foldlM g v).run P w = .ok u w ∧ repV I ι w o.v u := by
 unfold evMaxMin at hev
 split at hev
 ·rename_i k a r
  cases hn : evMax k f a r with
  | none => rw [hn] at hev; cases hev
  | some n =>
    rw [hn, Option.bind_some] at hev
    obtain rfl := Option.some.inj hev
    cases vs with
    | nil => exact hr.elim
    | cons v vs =>
      obtain ⟨rfl, ha⟩ := repV_int hr.1
      obtain ⟨h1, h2⟩ := evMax_sound (P := P) (k := k) w (hg k) (fun a b ha hb => by rcases hf a b with h | h <;> rw [h] <;> assumption) hn ha hr.2
      exact ⟨rfl, rfl, _, _, _, rfl, h1, repV_int_mk h2⟩
 ·cases hev
theorem srcOf_sound {te : T} {x : V} {m : List te.D} (h : srcOf te x = some m) {v : Value} (hv : repV I ι w x v) :
 ∃ base cap es, v = .slice base m.length cap ∧ repL (rep I w te) m es ∧ (m = [] ∨ ∃ b o, base = some ⟨b, o, none⟩ ∧ At w b o es) := by
 unfold srcOf at h
 split at h
 ·rename_i t' y
  obtain ⟨e, rfl⟩ := T.cast_some h
  subst e
  obtain ⟨base, cap, rfl, h1, h2, h3⟩ := repV_sl hv
  by_cases hm : (y : List te.D) = []
  ·exact ⟨base, cap, [], rfl, by rw [show (y : List te.D) = [] from hm]; rfl, .inl hm⟩
  ·obtain ⟨b, o, es, rfl, hI, hA, hL⟩ := h3 hm
   exact ⟨_, cap, es, rfl, hL, .inr ⟨b, o, rfl, hA⟩⟩
 ·obtain rfl := Option.some.inj h
  obtain rfl := repV_nil hv
  exact ⟨none, 0, [], rfl, rfl, .inl rfl⟩
 ·cases h
theorem run_firstCells (w : World) (size : Nat) (base : Option Addr) (n cap : Nat) (es : List Value) (hl : es.length = n * size) (h : n = 0 ∨ ∃ b o, base = some ⟨b, o, none⟩ ∧ At w b o es) :
 (Builtin.firstCells size n (.slice base n cap)).run P w = .ok es.toArray w := by
 rcases h with rfl | ⟨b, o, rfl, hA⟩
 ·have : es = [] := List.eq_nil_of_length_eq_zero (by simpa using hl)
  subst this
  cases base with
  | none => simp [Builtin.firstCells]
  | some a => simp [Builtin.firstCells, loadCells, loadCellsFrom]
 ·unfold Builtin.firstCells
  simp only
  rw [← hl]
  exact run_loadCells_list w _ es (fun j v hj => by rw [addr_add]; exact hA j v hj)
theorem run_append_more (K : TyOk P X) {t ty : TypeId} {te : T} (ht : X.ty t = some (.sl te)) (w : World) (base : Option Addr) (n cap : Nat) (olds : List Value) (ho : olds.length = n * te.size) (hb : n = 0 ∨ ∃ b o, base = some ⟨b, o, none⟩ ∧ At w b o olds)
 (sbase : Option Addr) (m scap : Nat) (news : List Value) (hn : news.length = m * te.size) (hs : m = 0 ∨ ∃ b o, sbase = some ⟨b, o, none⟩ ∧ At w b o news)
 (hgrow : cap < n + m) (hbig : n + m ≤ 1073741824) :
 ∃ (c : Nat) (rest : List Value), n + m ≤ c ∧ (c : Int) ≤ 9223372036854775807 ∧ rest.length = (c - (n + m)) * te.size ∧
  (Builtin.append_ #[t, t] ty #[.slice base n cap, .slice sbase m scap]).run P w =
    .ok (.slice (some ⟨w.heap.size, 0, none⟩) (n + m) c) (w.drew.alloc (.cells (olds ++ news ++ rest).toArray (X.el t))) := by
 obtain ⟨hu, hte, hsz⟩ := K.slice ht
 obtain ⟨i, hi, hsize, hbytes, z, hz, hzz⟩ := K.info hte
 have hzc : z.cells = te.zc.toArray := by rw [hzz]; exact mkVal_zc_cells K ⟨_, hte⟩
 have hge := grownCap_ge w (n + m) cap (X.el t)
 have hle := grownCap_le_maxLen w (n + m) cap (X.el t) (by unfold maxLen; omega)
 have h9 : maxLen = 9223372036854775807 := by decide
 have hle' : grownCap w (n + m) cap (X.el t) ≤ 9223372036854775807 := by omega
 refine ⟨grownCap w (n + m) cap (X.el t), (Builtin.zeroCells z.cells (grownCap w (n + m) cap (X.el t) - (n + m))).toList, hge, by omega, ?_, ?_⟩
 ·simp [Builtin.zeroCells, hzc, zc_length]
 ·have hno : ¬ (n + m ≤ cap) := by omega
  have h63 : ¬ (9223372036854775807 < ((n : Int) + (m : Int))) := by omega
  have hfit : Builtin.nextslicecap (n + m) cap * i.bytes ≤ 281474976710656 := growslice_fits (by omega) (by
   have : (n + m) * i.bytes ≤ 1073741824 * 65536 := Nat.mul_le_mul hbig hbytes
   omega)
  have h48 : ¬ (281474976710656 < Builtin.nextslicecap (n + m) cap * i.bytes) := by omega
  have ho' := run_firstCells (P := P) w.drew te.size base n cap olds ho (by rcases hb with h | ⟨b, o, h1, h2⟩; exact .inl h; exact .inr ⟨b, o, h1, h2⟩)
  have hn' := run_firstCells (P := P) w.drew te.size sbase m scap news hn (by rcases hs with h | ⟨b, o, h1, h2⟩; exact .inl h; exact .inr ⟨b, o, h1, h2⟩)
  have hund := run_underlying (P := P) hu
  simp [Builtin.append_, run_underlying hu, sizeOf, typeInfo, zeroValue, hi, hz, hsize, Builtin.lenOf, hno, h63, h48, Question.forced, ho', hn', newRow, grownCap]
  congr 2
  apply Array.ext'
  simp [List.append_assoc]
end
end Go.Sw

namespace Go.Sw
def killP (ks : List Nat) : Nat → Bool := fun id => ks.contains id
theorem killP_nil : killP [] = none' := by funext id; simp [killP, none']
theorem killP_one (k : Nat) : killP [k] = fun id => id == k := by funext id; simp [killP]; by_cases h : id = k <;> simp [h]
def updAll (σ : Nat → Option E) : List (Nat × E) → (Nat → Option E)
 | [] => σ
 | (k, e) :: r => updAll (updE σ k (some e)) r
def after (σ : Nat → Option E) (o : Out) : Nat → Option E := updAll (killE (killP o.kill) σ) o.upd
section
variable {P : Program} {X : Ctx} {F : Nat → Prop} {σ : Nat → Option E} {ι : Nat → Loc} {w : World} {I : Nat → Prop}
def Done (F : Nat → Prop) (σ : Nat → Option E) (ι : Nat → Loc) (w : World) (o : Out) (u : Value) (w' : World) : Prop :=
 ∃ ι', repV (Imm F ι' w') ι' w' o.v u ∧ Turn F (killP o.kill) ι w (after σ o) ι' w'
theorem Done.pure (H : HoldsE F σ ι w) {o : Out} {u : Value} (h1 : o.kill = []) (h2 : o.upd = []) (hr : repV (Imm F ι w) ι w o.v u) : Done F σ ι w o u w := by
 refine ⟨ι, hr, ?_⟩
 unfold after
 rw [h1, h2, killP_nil, killE_none]
 exact Turn.refl H
theorem Done.upd1 {o : Out} {u : Value} {w' : World} {ι' : Nat → Loc} {k : Nat} {e : E} (h1 : o.kill = []) (h2 : o.upd = [(k, e)]) (hr : repV (Imm F ι' w') ι' w' o.v u)
 (ht : Turn F none' ι w (updE σ k (some e)) ι' w') : Done F σ ι w o u w' := by
 refine ⟨ι', hr, ?_⟩
 unfold after
 rw [h1, h2, killP_nil, killE_none]
 exact ht
theorem Done.upd0 {o : Out} {u : Value} {w' : World} {ι' : Nat → Loc} (h1 : o.kill = []) (h2 : o.upd = []) (hr : repV (Imm F ι' w') ι' w' o.v u)
 (ht : Turn F none' ι w σ ι' w') : Done F σ ι w o u w' := by
 refine ⟨ι', hr, ?_⟩
 unfold after
 rw [h1, h2, killP_nil, killE_none]
 exact ht
theorem updE_updE (σ : Nat → Option E) (k : Nat) (a b : Option E) : updE (updE σ k a) k b = updE σ k b := by
 funext id; unfold updE; split <;> rfl
theorem updL_updL (ι : Nat → Loc) (k : Nat) (a b : Loc) : updL (updL ι k a) k b = updL ι k b := by
 funext id; unfold updL; split <;> rfl
theorem V.kill_kill (p : Nat → Bool) (v : V) : (v.kill p).kill p = v.kill p := by
 induction v <;> simp only [V.kill] <;> (try (split <;> simp_all [V.kill])) <;> simp_all
theorem E.kill_kill (p : Nat → Bool) (e : E) : (e.kill p).kill p = e.kill p := by
 cases e with
 | box t c => simp only [E.kill, V.kill_kill]
 | vec e t l => rfl
theorem frz_leaf0 (H : HoldsE F σ ι w) {k : Nat} {e : Nat} {t t' : T} {l : List t.D} (hk : σ k = some (.vec e t l)) {cs : List Value} (h : repC (Imm F ι w) ι w (.vec k t') cs) :
 rep (Imm F (updL ι k .dead) w) w (.sl t) l cs := by
 have hst := (Turn.drop H k).stay
 have he := H.ents k _ hk
 rw [repC] at h
 rw [rep]
 rcases h with ⟨h1, rfl⟩ | ⟨B, n, cap, h1, rfl, h2, h3, h4⟩
 ·rw [h1] at he
  have hl : l = [] := he
  subst hl
  exact ⟨none, 0, rfl, Nat.le_refl _, by decide, fun h => absurd rfl h⟩
 ·rw [h1] at he
  obtain ⟨hn, arr, es, hh, hsz, hA, hr⟩ := he
  subst hn
  refine ⟨some ⟨B, 0, none⟩, cap, rfl, h2, h3, fun _ => ⟨B, 0, es, rfl, ?_, hA, repL_mono (fun _ _ => rep_stay hst) hr⟩⟩
  refine ⟨H.blk_lt h1, fun hF => (H.foreign B hF).2 k _ h1, fun id m hid => ?_⟩
  by_cases hik : id = k
  ·subst hik; rw [updL_same] at hid; cases hid
  ·rw [updL_ne _ _ hik] at hid; exact hik (H.inj _ _ _ _ _ hid h1)
theorem Done.frz {k e : Nat} {te : T} {L : List te.D} {c : List Cnd} {u : Value} {w' : World} (hd : Done F σ ι w ⟨.vec k te, [k], [(k, .vec e te L)], c⟩ u w') :
 Done F σ ι w ⟨.d (.sl te) L, [k], [(k, .vec e te [])], c⟩ u w' := by
 obtain ⟨ι', hr, ht⟩ := hd
 have ha : ∀ x : E, after σ ⟨.vec k te, [k], [(k, x)], c⟩ = updE (killE (killP [k]) σ) k (some x) := fun x => rfl
 have hb : ∀ x : E, after σ ⟨.d (.sl te) L, [k], [(k, x)], c⟩ = updE (killE (killP [k]) σ) k (some x) := fun x => rfl
 rw [ha] at ht
 unfold Done
 rw [hb]
 have hp := killP_one k
 have H' := ht.mem
 have h1 := Turn.drop H' k
 have h2 := Turn.nilv h1.mem (k := k) (updE_same _ _ _) e te
 rw [updL_updL] at h2
 have h3 := (ht.trans h1).trans_none h2
 have hst : updE (updE (killE (fun id => id == k) (updE (killE (killP [k]) σ) k (some (.vec e te L)))) k none) k (some (.vec e te [])) = updE (killE (killP [k]) σ) k (some (.vec e te [])) := by
  funext id
  unfold updE killE
  by_cases h : id = k
  ·simp [h]
  ·simp only [h, if_false]
   rw [← hp]
   cases σ id with
   | none => rfl
   | some x => simp [E.kill_kill]
 rw [hst] at h3
 have hpp : (fun id => killP [k] id || (id == k)) = killP [k] := by
  funext id
  rw [hp]
  simp
 rw [hpp] at h3
 obtain ⟨cs, hc, rfl⟩ := hr
 have hrep := frz_leaf0 H' (updE_same _ _ _) hc
 exact ⟨_, ⟨cs, by rw [repC]; exact rep_stay h2.stay hrep, rfl⟩, h3⟩
theorem evAppend0_sound (K : TyOk P X) (H : HoldsE F σ ι w) {h : Hint} {id : Nat} (hid : σ id = none) {t ty : TypeId} {s x : V} {o : Out} (hev : evAppend0 X σ h id t s x = some o) (hc : AllTrue o.c) {vs vx : Value}
 (hs : repV (Imm F ι w) ι w s vs) (hx : repV (Imm F ι w) ι w x vx) :
 ∃ u w', (Builtin.append_ #[t, t] ty #[vs, vx]).run P w = .ok u w' ∧ Done F σ ι w o u w' := by
 unfold evAppend0 at hev
 split at hev
 ·rename_i te ht
  cases hm : srcOf te x with
  | none => rw [hm] at hev; cases hev
  | some m =>
    rw [hm, Option.bind_some] at hev
    obtain ⟨hu, hte, hsz⟩ := K.slice ht
    obtain ⟨xb, xcap, news, rfl, hnews, hxb⟩ := srcOf_sound hm hx
    have hnl : news.length = m.length * te.size := repL_length (fun _ _ => rep_length) hnews
    have hxb' : m.length = 0 ∨ ∃ b o, xb = some ⟨b, o, none⟩ ∧ At w b o news := by
     rcases hxb with rfl | h
     ·exact .inl rfl
     ·exact .inr h
    have runNil : m = [] → (Builtin.append_ #[t, t] ty #[.slice none 0 0, .slice xb m.length xcap]).run P w = .ok (.slice none 0 0) w := by
     intro h0
     subst h0
     obtain ⟨i, hi, hsize, _⟩ := K.info hte
     have hf := run_firstCells (P := P) w te.size xb 0 xcap [] (by simp) (.inl rfl)
     simp [Builtin.append_, run_underlying hu, sizeOf, typeInfo, hi, hsize, Builtin.lenOf, hf]
    split at hev
    ·obtain rfl := repV_nil hs
     split at hev
     ·-- own
      obtain rfl := Option.some.inj hev
      have hbig : m.length ≤ 1073741824 := hc.1
      by_cases h0 : m = []
      ·refine ⟨_, _, runNil h0, Done.upd1 (ι' := updL ι id .nilv) rfl rfl ⟨[.slice none 0 0], ?_, rfl⟩ ?_⟩
       ·rw [repC]; exact .inl ⟨updL_same _ _ _, rfl⟩
       ·subst h0; exact Turn.nilv H hid _ _
      ·have hpos : 0 < m.length := List.length_pos_iff.2 h0
       obtain ⟨c, rest, h1, h2, h3, h4⟩ := run_append_more (ty := ty) K ht w none 0 0 [] (by simp) (.inl rfl) xb m.length xcap news hnl hxb' (by omega) (by omega)
       simp only [Nat.zero_add, List.nil_append] at h1 h3 h4
       have hd := Turn.drew H
       have hn := Turn.named hd.mem hid (.cells (news ++ rest).toArray (X.el t)) m.length (.vec (X.el t) te m)
        (fun hst hsm => ⟨rfl, _, news, heap_alloc_new' _ _, hsz, (At.of_new w.drew (news ++ rest) (X.el t)).left, repL_mono (fun _ _ hr => rep_stay hst (rep_stay hd.stay hr)) hnews⟩)
       refine ⟨_, _, h4, Done.upd1 rfl rfl ⟨[.slice (some ⟨w.heap.size, 0, none⟩) m.length c], ?_, rfl⟩ (hd.trans' hn)⟩
       rw [repC]
       refine .inr ⟨w.heap.size, m.length, c, updL_same _ _ _, rfl, h1, h2, ?_⟩
       rw [show blkSize _ w.heap.size = _ from blkSize_eq (heap_alloc_new' w.drew _)]
       simp only [List.size_toArray, List.length_append, hnl, h3, ← Nat.add_mul]
       congr 1
       omega
     ·-- not named
      obtain rfl := Option.some.inj hev
      have hbig : m.length ≤ 1073741824 := hc.1
      by_cases h0 : m = []
      ·refine ⟨_, _, runNil h0, Done.pure H rfl rfl ⟨[.slice none 0 0], ?_, rfl⟩⟩
       subst h0
       rw [repC, rep]
       exact ⟨none, 0, rfl, Nat.le_refl _, by decide, fun h => absurd rfl h⟩
      ·have hpos : 0 < m.length := List.length_pos_iff.2 h0
       obtain ⟨c, rest, h1, h2, h3, h4⟩ := run_append_more (ty := ty) K ht w none 0 0 [] (by simp) (.inl rfl) xb m.length xcap news hnl hxb' (by omega) (by omega)
       simp only [Nat.zero_add, List.nil_append] at h1 h3 h4
       have hd := Turn.drew H
       have hn := Turn.fresh hd.mem (.cells (news ++ rest).toArray (X.el t))
       refine ⟨_, _, h4, Done.upd0 rfl rfl ⟨[.slice (some ⟨w.heap.size, 0, none⟩) m.length c], ?_, rfl⟩ (hd.trans' hn)⟩
       rw [repC, rep]
       exact ⟨_, c, rfl, h1, h2, fun _ => ⟨w.heap.size, 0, news, rfl, imm_fresh hd.mem _, (At.of_new w.drew (news ++ rest) (X.el t)).left, repL_mono (fun _ _ hr => rep_stay hn.stay (rep_stay hd.stay hr)) hnews⟩⟩
    ·rename_i k te'
     split at hev
     ·rename_i he
      subst he
      cases hv : vecOf σ k te' with
      | none => rw [hv] at hev; cases hev
      | some p =>
        obtain ⟨e, l⟩ := p
        rw [hv, Option.bind_some] at hev
        split at hev
        ·rename_i hel
         simp only at hel
         subst hel
         obtain rfl := Option.some.inj hev
         have hbig : (l ++ m).length ≤ 1073741824 := hc.1
         rw [List.length_append] at hbig
         have hσk := vecOf_some hv
         have hp := killP_one k
         have grow : ∀ (base : Option Addr) (cap : Nat) (olds : List Value), olds.length = l.length * te'.size → (l.length = 0 ∨ ∃ b o, base = some ⟨b, o, none⟩ ∧ At w b o olds) → repL (rep (Imm F ι w) w te') l olds →
          cap < l.length + m.length → ∃ u w', (Builtin.append_ #[t, t] ty #[.slice base l.length cap, .slice xb m.length xcap]).run P w = .ok u w' ∧
           Done F σ ι w ⟨.vec k te', [k], [(k, .vec (X.el t) te' (l ++ m))], cLen (List.length (l ++ m))⟩ u w' := by
          intro base cap olds hol hba hro hcap
          obtain ⟨c, rest, h1, h2, h3, h4⟩ := run_append_more (ty := ty) K ht w base l.length cap olds hol hba xb m.length xcap news hnl hxb' hcap hbig
          have hdr := Turn.drop H k
          have hd := Turn.drew hdr.mem
          have hn := Turn.named hd.mem (updE_same _ _ _) (.cells (olds ++ news ++ rest).toArray (X.el t)) (l ++ m).length (.vec (X.el t) te' (l ++ m))
           (fun hst hsm => ⟨rfl, _, olds ++ news, heap_alloc_new' _ _, hsz, (At.of_new w.drew (olds ++ news ++ rest) (X.el t)).left,
             repL_mono (fun _ _ hr => rep_stay hst (rep_stay hd.stay (rep_stay hdr.stay hr))) (repL_append hro hnews)⟩)
          have hall := hdr.trans_none (hd.trans' hn)
          rw [updE_updE, updL_updL] at hall
          refine ⟨_, _, h4, updL ι k (.blk w.heap.size (l ++ m).length), ⟨[.slice (some ⟨w.heap.size, 0, none⟩) (l.length + m.length) c], ?_, rfl⟩, ?_⟩
          ·rw [repC]
           refine .inr ⟨w.heap.size, (l ++ m).length, c, updL_same _ _ _, by rw [List.length_append], by rw [List.length_append]; exact h1, h2, ?_⟩
           rw [show blkSize _ w.heap.size = _ from blkSize_eq (heap_alloc_new' w.drew _)]
           simp only [List.size_toArray, List.length_append, hnl, h3, hol, ← Nat.add_mul]
           congr 1
           omega
          ·unfold after
           rw [hp]
           exact hall
         rcases vec_slice H hv hs with ⟨hk, rfl, rfl⟩ | ⟨B, cap, hk, rfl, hle, hcap, hbs⟩
         ·by_cases h0 : m = []
          ·refine ⟨_, _, runNil h0, ι, ⟨[.slice none 0 0], ?_, rfl⟩, ?_⟩
           ·rw [repC]; exact .inl ⟨hk, rfl⟩
           ·subst h0
            have hkl := Turn.kill H (killP [k])
            have : after σ ⟨.vec k te', [k], [(k, .vec (X.el t) te' ([] ++ []))], cLen (List.length (([] : List te'.D) ++ []))⟩ = killE (killP [k]) σ := by
             unfold after updAll updAll
             funext id'
             unfold updE
             split
             ·rename_i e1; subst e1; simp [killE, hσk, E.kill]
             ·rfl
            rw [this]
            exact hkl
          ·have hpos : 0 < m.length := List.length_pos_iff.2 h0
           exact grow none 0 [] (by simp) (.inl rfl) rfl (by simp; omega)
         ·obtain ⟨hn, arr, es, hh, _, hA, hr⟩ := H.vec hσk hk
          have hel : es.length = l.length * te'.size := repL_length (fun _ _ => rep_length) hr
          by_cases hroom : l.length + m.length ≤ cap
          ·rw [blkSize_eq hh] at hbs
           have htake : arr.toList.take es.length = es := by
            apply List.ext_getElem?
            intro j
            rw [List.getElem?_take]
            split
            ·rename_i hj
             have := hA j _ (List.getElem?_eq_getElem hj)
             simp only [World.cell?, hh, Nat.zero_add] at this
             rw [List.getElem?_eq_getElem hj]
             simpa using this
            ·rename_i hj
             rw [List.getElem?_eq_none (by omega)]
           obtain ⟨i, hi, hsize, _⟩ := K.info hte
           have hfit : es.length + news.length ≤ arr.size := by
            rw [hel, hnl, ← hbs, ← Nat.add_mul]
            exact Nat.mul_le_mul_right _ hroom
           have hf := run_firstCells (P := P) w te'.size xb m.length xcap news hnl hxb'
           have hst := run_storeCells_at P B (l.length * te'.size) (X.el t) news 0 arr w hh (by omega) (by
            intro c hcm
            have : ∀ {l : List te'.D} {cs : List Value}, repL (rep (Imm F ι w) w te') l cs → ∀ c ∈ cs, one c := by
             intro l
             induction l with
             | nil => intro cs h c hc; rw [repL] at h; subst h; cases hc
             | cons y ys ih =>
               intro cs h c hc
               obtain ⟨c1, c2, rfl, h1, h2⟩ := h
               rcases List.mem_append.1 hc with hc | hc
               ·exact rep_one h1 c hc
               ·exact ih h2 c hc
            have h1 := this hnews c hcm
            cases c <;> first | rfl | exact h1.elim)
           simp only [Nat.add_zero] at hst
           rw [← hel, htake] at hst
           have hrun : (Builtin.append_ #[t, t] ty #[.slice (some ⟨B, 0, none⟩) l.length cap, .slice xb m.length xcap]).run P w =
            .ok (.slice (some ⟨B, 0, none⟩) (l.length + m.length) cap) (w.setRow B (es ++ news ++ arr.toList.drop (es.length + news.length)).toArray) := by
            have hadd : (⟨B, 0, none⟩ : Addr).add (l.length * te'.size) = ⟨B, es.length, none⟩ := by rw [addr_add, hel, Nat.zero_add]
            simp [Builtin.append_, run_underlying hu, sizeOf, typeInfo, hi, hsize, Builtin.lenOf, hroom, hf, hadd, hst]
           have hnew := setRow_heap w B arr (es ++ news ++ arr.toList.drop (es.length + news.length)).toArray (X.el t) (0, 0) hh
           have hwr := Turn.write' H hk (l ++ m).length (w' := w.setRow B (es ++ news ++ arr.toList.drop (es.length + news.length)).toArray) (by simp) (fun b hb => setRow_other w B b _ hb) (by
            rw [blkSize_eq hnew, blkSize_eq hh]
            simp
            omega) rfl rfl rfl (.vec (X.el t) te' (l ++ m)) (killP [k]) (.inr (by simp [killP]))
            (fun hst hsm => ⟨rfl, _, es ++ news, hnew, hsz, (by
              have := At.of_cells hnew
              have e1 : (es ++ news ++ arr.toList.drop (es.length + news.length)).toArray.toList = (es ++ news) ++ arr.toList.drop (es.length + news.length) := by simp
              rw [e1] at this
              exact this.left), repL_mono (fun _ _ => rep_stay hst) (repL_append hr hnews)⟩)
           refine ⟨_, _, hrun, _, ⟨[.slice (some ⟨B, 0, none⟩) (l.length + m.length) cap], ?_, rfl⟩, hwr⟩
           rw [repC]
           refine .inr ⟨B, (l ++ m).length, cap, updL_same _ _ _, by rw [List.length_append], by rw [List.length_append]; exact hroom, hcap, ?_⟩
           rw [blkSize_eq hnew]
           simp
           omega
          ·exact grow (some ⟨B, 0, none⟩) cap es hel (.inr ⟨B, 0, rfl, hA⟩) hr (by omega)
        ·cases hev
     ·cases hev
    ·cases hev
 ·cases hev
theorem evAppend_sound (K : TyOk P X) (H : HoldsE F σ ι w) {h : Hint} {id : Nat} (hid : σ id = none) {t ty : TypeId} {s x : V} {o : Out} (hev : evAppend X σ h id t s x = some o) (hc : AllTrue o.c) {vs vx : Value}
 (hs : repV (Imm F ι w) ι w s vs) (hx : repV (Imm F ι w) ι w x vx) :
 ∃ u w', (Builtin.append_ #[t, t] ty #[vs, vx]).run P w = .ok u w' ∧ Done F σ ι w o u w' := by
 unfold evAppend at hev
 split at hev
 ·rename_i k te'
  split at hev
  ·rename_i te ht
   cases hm : srcOf te x with
   | none => rw [hm] at hev; cases hev
   | some m =>
     rw [hm, Option.bind_some] at hev
     split at hev
     ·rename_i hte
      subst hte
      cases hv : vecOf σ k te' with
      | none => rw [hv] at hev; cases hev
      | some l =>
        rw [hv, Option.bind_some] at hev
        split at hev
        ·rename_i hel
         obtain rfl := Option.some.inj hev
         have h0 : evAppend0 X σ .part id t (.vec k te') x = some ⟨.vec k te', [k], [(k, .vec l.1 te' (l.2 ++ m))], cLen (List.length (l.2 ++ m))⟩ := by
          unfold evAppend0
          rw [ht]
          simp only [hm, Option.bind_some, if_pos, hv, if_pos hel]
         obtain ⟨u, w', h1, h2⟩ := evAppend0_sound K H hid h0 hc hs hx
         exact ⟨u, w', h1, h2.frz⟩
        ·cases hev
     ·cases hev
  ·cases hev
 ·exact evAppend0_sound K H hid hev hc hs hx
end
end Go.Sw

namespace Go.Sw
def V.ren (ρ : Nat → Nat) : V → V
 | .ptr k o => .ptr (ρ k) o
 | .elt k t i o => .elt (ρ k) t i o
 | .vec k t => .vec (ρ k) t
 | .sub k t o l => .sub (ρ k) t o l
 | .fn f a c => .fn f (a.ren ρ) (c.ren ρ)
 | .agg x => .agg (x.ren ρ)
 | .tup x => .tup (x.ren ρ)
 | .vcons a b => .vcons (a.ren ρ) (b.ren ρ)
 | .un => .un
 | .d t x => .d t x
 | .pt t x => .pt t x
 | .nil => .nil
 | .vnil => .vnil
def E.ren (ρ : Nat → Nat) : E → E
 | .box t c => .box t (c.ren ρ)
 | .vec e t l => .vec e t l
def CallSt (P : Program) (f : FuncId) (args : List V) (σi : List (Nat × E)) (r : V) (σo : List (Nat × E)) : Prop :=
 ∀ (F : Nat → Prop) (ι : Nat → Loc) (w : World) (vals : List Value), HoldsE F (getE σi) ι w → Gl P F ι w → ArgsRep (Imm F ι w) ι w args vals →
  Calls P f vals.toArray w fun e w' => ∃ v ι', e = .returned v ∧ repV (Imm F ι' w') ι' w' r v ∧ HoldsE F (getE σo) ι' w' ∧ ExtA ι w ι' w'
theorem ren_isAgg (ρ : Nat → Nat) (x : V) : (x.ren ρ).isAgg = x.isAgg := by cases x <;> rfl
theorem repC_ren {I I' : Nat → Prop} {ι ι' : Nat → Loc} {w : World} {ρ : Nat → Nat} (hι : ∀ c, ι' c = ι (ρ c)) (hI : ∀ b, I b ↔ I' b) : ∀ {x : V} {cs : List Value}, repC I ι w (x.ren ρ) cs ↔ repC I' ι' w x cs := by
 have st : ∀ {t : T} {x : t.D} {cs : List Value}, rep I w t x cs ↔ rep I' w t x cs := fun {t x cs} =>
  ⟨rep_stay ⟨fun b hb => (hI b).1 hb, fun _ _ _ _ h => h⟩, rep_stay ⟨fun b hb => (hI b).2 hb, fun _ _ _ _ h => h⟩⟩
 intro x
 induction x with
 | un => intro cs; exact Iff.rfl
 | d t x => intro cs; rw [V.ren, repC, repC]; exact st
 | pt t x => intro cs; rw [V.ren, repC, repC]; simp only [hI, st]
 | ptr k o => intro cs; rw [V.ren, repC, repC, hι]
 | elt k t i o => intro cs; rw [V.ren, repC, repC, hι]
 | vec k t => intro cs; rw [V.ren, repC, repC, hι]
 | sub k t o l => intro cs; rw [V.ren, repC, repC, hι]
 | nil => intro cs; exact Iff.rfl
 | vnil => intro cs; exact Iff.rfl
 | fn f a c ih1 ih2 => intro cs; rw [V.ren, repC, repC]; simp only [ih1, ih2]
 | agg l ih => intro cs; rw [V.ren, repC, repC]; exact ih
 | tup l ih => intro cs; rw [V.ren, repC, repC]
 | vcons a b ih1 ih2 => intro cs; rw [V.ren, repC, repC]; simp only [ih1, ih2]
theorem repT_ren {I I' : Nat → Prop} {ι ι' : Nat → Loc} {w : World} {ρ : Nat → Nat} (hι : ∀ c, ι' c = ι (ρ c)) (hI : ∀ b, I b ↔ I' b) : ∀ {x : V} {vs : List Value}, repT I ι w (x.ren ρ) vs ↔ repT I' ι' w x vs := by
 intro x
 induction x with
 | vcons a b ih1 ih2 => intro cs; rw [V.ren, repT, repT]; simp only [ih2, repC_ren hι hI, ren_isAgg]
 | _ => intro cs; simp only [V.ren, repT]
theorem repV_ren {I I' : Nat → Prop} {ι ι' : Nat → Loc} {w : World} {ρ : Nat → Nat} (hι : ∀ c, ι' c = ι (ρ c)) (hI : ∀ b, I b ↔ I' b) {x : V} {v : Value} : repV I ι w (x.ren ρ) v ↔ repV I' ι' w x v := by
 have key : ∀ x : V, (∃ cs, repC I ι w (x.ren ρ) cs ∧ v = mkVal (x.ren ρ).isAgg cs) ↔ (∃ cs, repC I' ι' w x cs ∧ v = mkVal x.isAgg cs) := by
  intro x; simp only [repC_ren hι hI, ren_isAgg]
 cases x with
 | un => exact Iff.rfl
 | tup l => show (∃ vs, v = .tuple vs ∧ repT I ι w (l.ren ρ) vs.toList) ↔ (∃ vs, v = .tuple vs ∧ repT I' ι' w l vs.toList); simp only [repT_ren hι hI]
 | d t x => exact key (.d t x)
 | pt t x => exact key (.pt t x)
 | ptr k o => exact key (.ptr k o)
 | elt k t i o => exact key (.elt k t i o)
 | vec k t => exact key (.vec k t)
 | sub k t o l => exact key (.sub k t o l)
 | nil => exact key .nil
 | vnil => exact key .vnil
 | fn f a c => exact key (.fn f a c)
 | agg l => exact key (.agg l)
 | vcons a b => exact key (.vcons a b)
theorem argsRep_ren {I I' : Nat → Prop} {ι ι' : Nat → Loc} {w : World} {ρ : Nat → Nat} (hι : ∀ c, ι' c = ι (ρ c)) (hI : ∀ b, I b ↔ I' b) : ∀ {xs : List V} {vs : List Value}, ArgsRep I ι w (xs.map (V.ren ρ)) vs ↔ ArgsRep I' ι' w xs vs := by
 intro xs
 induction xs with
 | nil => intro vs; cases vs <;> exact Iff.rfl
 | cons x xs ih =>
   intro vs
   cases vs with
   | nil => exact Iff.rfl
   | cons v vs => simp only [List.map_cons, ArgsRep, ih, repV_ren hι hI]
theorem repE_ren {I I' : Nat → Prop} {ι ι' : Nat → Loc} {w : World} {ρ : Nat → Nat} (hι : ∀ c, ι' c = ι (ρ c)) (hI : ∀ b, I b ↔ I' b) {e : E} {l : Loc} : repE I ι w (e.ren ρ) l ↔ repE I' ι' w e l := by
 have st : ∀ {t : T} {x : t.D} {cs : List Value}, rep I w t x cs ↔ rep I' w t x cs := fun {t x cs} =>
  ⟨rep_stay ⟨fun b hb => (hI b).1 hb, fun _ _ _ _ h => h⟩, rep_stay ⟨fun b hb => (hI b).2 hb, fun _ _ _ _ h => h⟩⟩
 cases e with
 | box bt c =>
   cases l with
   | blk B n => simp only [E.ren, repE, repC_ren hι hI]
   | _ => exact Iff.rfl
 | vec e t xs =>
   cases l with
   | blk B n =>
     have : ∀ es, repL (rep I w t) xs es ↔ repL (rep I' w t) xs es := fun es => ⟨repL_mono fun _ _ => st.1, repL_mono fun _ _ => st.2⟩
     simp only [E.ren, repE, this]
   | _ => exact Iff.rfl
section
variable {P : Program} {F : Nat → Prop} {σ : Nat → Option E} {ι : Nat → Loc} {w : World}
theorem Turn.callSt (H : HoldsE F σ ι w) {σi σo : Nat → Option E} {σ' : Nat → Option E} {ρ : Nat → Nat} {p : Nat → Bool} {z : Nat} (hz : σ z = none)
 (h1 : ∀ c, σi c = none → ρ c = z) (h2 : ∀ c e, σi c = some e → σ (ρ c) = some (e.ren ρ)) (h3 : ∀ c c', σi c ≠ none → σi c' ≠ none → ρ c = ρ c' → c = c')
 (h4 : ∀ c, σo c = none ↔ σi c = none) (h5 : ∀ c e, σo c = some e → σ' (ρ c) = some (e.ren ρ)) (h6 : ∀ id, (∀ c, σi c ≠ none → ρ c ≠ id) → σ' id = killE p σ id)
 (h7 : ∀ c, σi c ≠ none → p (ρ c) = false → low c = false) :
 ∃ (Fc : Nat → Prop) (ιc : Nat → Loc), HoldsE Fc σi ιc w ∧ (∀ b, Imm F ι w b → Imm Fc ιc w b) ∧ (∀ xs vs, ArgsRep (Imm F ι w) ι w (xs.map (V.ren ρ)) vs → ArgsRep (Imm Fc ιc w) ιc w xs vs) ∧
  ∀ (ιc' : Nat → Loc) (w' : World), HoldsE Fc σo ιc' w' → ExtA ιc w ιc' w' →
   ∃ ι', Turn F p ι w σ' ι' w' ∧ ∀ r v, repV (Imm Fc ιc' w') ιc' w' r v → repV (Imm F ι' w') ι' w' (r.ren ρ) v := by
 classical
 let inR : Nat → Prop := fun id => ∃ c, σi c ≠ none ∧ ρ c = id
 let Fc : Nat → Prop := fun b => F b ∨ ∃ id n, ¬ inR id ∧ ι id = .blk b n
 let ιc : Nat → Loc := fun c => ι (ρ c)
 have hzι : ι z = .dead := H.dead z hz
 have hzR : ¬ inR z := by
  rintro ⟨c, hc, hcz⟩
  cases he : σi c with
  | none => exact hc he
  | some e => have := h2 c e he; rw [hcz, hz] at this; cases this
 have live : ∀ c, ιc c ≠ .dead → σi c ≠ none := by
  intro c hc he
  apply hc
  show ι (ρ c) = .dead
  rw [h1 c he]
  exact hzι
 have himm : ∀ b, Imm F ι w b ↔ Imm Fc ιc w b := by
  intro b
  unfold Imm
  constructor
  ·rintro ⟨q1, q2, q3⟩
   refine ⟨q1, ?_, fun c n => q3 (ρ c) n⟩
   rintro (hb | ⟨id, n, _, hb⟩)
   ·exact q2 hb
   ·exact q3 id n hb
  ·rintro ⟨q1, q2, q3⟩
   refine ⟨q1, fun hb => q2 (.inl hb), fun id n hb => ?_⟩
   by_cases hr : inR id
   ·obtain ⟨c, _, rfl⟩ := hr; exact q3 c n hb
   ·exact q2 (.inr ⟨id, n, hr, hb⟩)
 have Hc : HoldsE Fc σi ιc w := by
  refine ⟨fun c e he => ?_, fun c hc => ?_, fun c c' B n n' q1 q2 => ?_, fun b hb => ?_⟩
  ·have := H.ents (ρ c) _ (h2 c e he)
   exact (repE_ren (ι := ι) (ι' := ιc) (ρ := ρ) (fun _ => rfl) himm).1 this
  ·show ι (ρ c) = .dead
   rw [h1 c hc]; exact hzι
  ·refine h3 c c' (live c (by rw [q1]; simp)) (live c' (by rw [q2]; simp)) (H.inj _ _ _ _ _ q1 q2)
  ·rcases hb with hb | ⟨id, n, hr, hb⟩
   ·obtain ⟨q1, q2⟩ := H.foreign b hb
    exact ⟨q1, fun c n => q2 (ρ c) n⟩
   ·refine ⟨H.blk_lt hb, fun c m hc => hr ⟨c, live c (by rw [hc]; simp), H.inj _ _ _ _ _ hc hb⟩⟩
 refine ⟨Fc, ιc, Hc, fun b hb => (himm b).1 hb, fun xs vs h => (argsRep_ren (ι := ι) (ι' := ιc) (ρ := ρ) (fun _ => rfl) himm).1 h, fun ιc' w' Ho hx => ?_⟩
 let ι' : Nat → Loc := fun id => if h : inR id then ιc' (Classical.choose h) else ι id
 have hι'R : ∀ c, σi c ≠ none → ι' (ρ c) = ιc' c := by
  intro c hc
  have hr : inR (ρ c) := ⟨c, hc, rfl⟩
  show (if h : inR (ρ c) then ιc' (Classical.choose h) else ι (ρ c)) = ιc' c
  rw [dif_pos hr]
  obtain ⟨q1, q2⟩ := Classical.choose_spec hr
  rw [h3 _ _ q1 hc q2]
 have hι'N : ∀ id, ¬ inR id → ι' id = ι id := fun id h => dif_neg h
 have hren : ∀ c, ιc' c = ι' (ρ c) := by
  intro c
  cases he : σi c with
  | some e => exact (hι'R c (by rw [he]; simp)).symm
  | none =>
    rw [Ho.dead c ((h4 c).2 he), h1 c he, hι'N z hzR, hzι]
 have hkeep : ∀ id B n, ¬ inR id → ι id = .blk B n → w'.heap[B]? = w.heap[B]? := by
  intro id B n hr hB
  refine hx.ext.keep B (H.blk_lt hB) fun c m hc => hr ⟨c, live c (by rw [hc]; simp), H.inj _ _ _ _ _ hc hB⟩
 have himm' : ∀ b, Imm F ι' w' b ↔ Imm Fc ιc' w' b := by
  intro b
  unfold Imm
  constructor
  ·rintro ⟨q1, q2, q3⟩
   refine ⟨q1, ?_, fun c n hc => q3 (ρ c) n (by rw [← hren]; exact hc)⟩
   rintro (hb | ⟨id, n, hr, hb⟩)
   ·exact q2 hb
   ·exact q3 id n (by rw [hι'N id hr]; exact hb)
  ·rintro ⟨q1, q2, q3⟩
   refine ⟨q1, fun hb => q2 (.inl hb), fun id n hb => ?_⟩
   by_cases hr : inR id
   ·obtain ⟨c, hc, rfl⟩ := hr
    rw [hι'R c hc] at hb
    exact q3 c n hb
   ·rw [hι'N id hr] at hb
    exact q2 (.inr ⟨id, n, hr, hb⟩)
 have hst : Stay (Imm F ι w) (Imm F ι' w') w w' := by
  have hk : ∀ b, Imm F ι w b → w'.heap[b]? = w.heap[b]? := fun b hb => hx.ext.keep b hb.1 fun c m => hb.2.2 (ρ c) m
  refine ⟨fun b hb => ⟨Nat.lt_of_lt_of_le hb.1 hx.ext.size, hb.2.1, fun id n hid => ?_⟩, fun b o v hb hc => by rw [cell_of_heap (hk b hb)]; exact hc⟩
  by_cases hr : inR id
  ·obtain ⟨c, hc, rfl⟩ := hr
   rw [hι'R c hc] at hid
   rcases hx.ext.new c b n hid with ⟨c0, n0, h0⟩ | h0
   ·exact hb.2.2 (ρ c0) n0 h0
   ·have := hb.1; omega
  ·rw [hι'N id hr] at hid
   exact hb.2.2 id n hid
 have hsm : Same p ι ι' w w' := by
  refine ⟨fun id hp hne => ?_, fun id B n hp hB => ?_⟩
  ·by_cases hr : inR id
   ·obtain ⟨c, hc, rfl⟩ := hr
    rw [hι'R c hc]
    exact hx.same.loc c (h7 c hc hp) hne
   ·exact hι'N id hr
  ·by_cases hr : inR id
   ·obtain ⟨c, hc, rfl⟩ := hr
    exact hx.same.size c B n (h7 c hc hp) hB
   ·exact blkSize_of_heap (hkeep id B n hr hB)
 refine ⟨ι', ⟨hst, hsm, ⟨fun id e he => ?_, fun id hid => ?_, fun id id' B n n' q1 q2 => ?_, fun b hb => ?_⟩, ⟨hx.ext.os, hx.ext.tape, hx.ext.output, hx.ext.size, fun b hb hn => hx.ext.keep b hb fun c m => hn (ρ c) m, fun id B n hid => ?_⟩⟩, fun r v hr => (repV_ren hren himm').2 hr⟩
 ·by_cases hr : inR id
  ·obtain ⟨c, hc, rfl⟩ := hr
   cases ho : σo c with
   | none => exact absurd ((h4 c).1 ho) hc
   | some eo =>
     rw [h5 c eo ho] at he
     obtain rfl := Option.some.inj he
     rw [hι'R c hc]
     exact (repE_ren hren himm').2 (Ho.ents c eo ho)
  ·have hn : ∀ c, σi c ≠ none → ρ c ≠ id := fun c hc e => hr ⟨c, hc, e⟩
   rw [h6 id hn] at he
   obtain ⟨e0, h0, rfl⟩ := killE_some he
   rw [hι'N id hr]
   exact repE_kill hst hsm (fun B n hB => hkeep id B n hr hB) (H.ents id e0 h0)
 ·by_cases hr : inR id
  ·obtain ⟨c, hc, rfl⟩ := hr
   cases ho : σo c with
   | none => exact absurd ((h4 c).1 ho) hc
   | some eo => rw [h5 c eo ho] at hid; cases hid
  ·have hn : ∀ c, σi c ≠ none → ρ c ≠ id := fun c hc e => hr ⟨c, hc, e⟩
   rw [h6 id hn] at hid
   rw [hι'N id hr]
   exact H.dead id (killE_nil hid)
 ·by_cases hr : inR id
  ·obtain ⟨c, hc, rfl⟩ := hr
   rw [hι'R c hc] at q1
   by_cases hr' : inR id'
   ·obtain ⟨c', hc', rfl⟩ := hr'
    rw [hι'R c' hc'] at q2
    rw [Ho.inj _ _ _ _ _ q1 q2]
   ·rw [hι'N id' hr'] at q2
    exact absurd q1 ((Ho.foreign B (.inr ⟨id', n', hr', q2⟩)).2 c n)
  ·rw [hι'N id hr] at q1
   by_cases hr' : inR id'
   ·obtain ⟨c', hc', rfl⟩ := hr'
    rw [hι'R c' hc'] at q2
    exact absurd q2 ((Ho.foreign B (.inr ⟨id, n, hr, q1⟩)).2 c' n')
   ·rw [hι'N id' hr'] at q2
    exact H.inj _ _ _ _ _ q1 q2
 ·obtain ⟨q1, q2⟩ := Ho.foreign b (.inl hb)
  refine ⟨q1, fun id n hid => ?_⟩
  by_cases hr : inR id
  ·obtain ⟨c, hc, rfl⟩ := hr
   rw [hι'R c hc] at hid
   exact q2 c n hid
  ·rw [hι'N id hr] at hid
   exact (H.foreign b hb).2 id n hid
 ·by_cases hr : inR id
  ·obtain ⟨c, hc, rfl⟩ := hr
   rw [hι'R c hc] at hid
   rcases hx.ext.new c B n hid with ⟨c0, n0, h0⟩ | h0
   ·exact .inl ⟨ρ c0, n0, h0⟩
   ·exact .inr h0
  ·rw [hι'N id hr] at hid
   exact .inl ⟨id, n, hid⟩
def none1 (_ : Nat) : Option E := none
def dead0 (_ : Nat) : Loc := .dead
def CallOwn (P : Program) (f : FuncId) (args : List V) (el : Nat) (te : T) (l : List te.D) : Prop :=
 ∀ (F : Nat → Prop) (w : World) (vals : List Value), (∀ b, F b → b < w.heap.size) → Gl P F dead0 w → ArgsRep (Imm F dead0 w) dead0 w args vals →
  Calls P f vals.toArray w fun e w' => ∃ v ι', e = .returned v ∧ repV (Imm F ι' w') ι' w' (.vec 0 te) v ∧ HoldsE F (updE none1 0 (some (.vec el te l))) ι' w' ∧ Ext dead0 w ι' w'
theorem Turn.callOwn (H : HoldsE F σ ι w) {id : Nat} (hid : σ id = none) {el : Nat} {te : T} {l : List te.D} {ι' : Nat → Loc} {w' : World}
 (Ho : HoldsE (fun b => F b ∨ ∃ id n, ι id = .blk b n) (updE none1 0 (some (.vec el te l))) ι' w') (hx : Ext dead0 w ι' w') {v : Value}
 (hv : repV (Imm (fun b => F b ∨ ∃ id n, ι id = .blk b n) ι' w') ι' w' (.vec 0 te) v) :
 Turn F none' ι w (updE σ id (some (.vec el te l))) (updL ι id (ι' 0)) w' ∧ repV (Imm F (updL ι id (ι' 0)) w') (updL ι id (ι' 0)) w' (.vec id te) v := by
 have hheap : ∀ b, b < w.heap.size → w'.heap[b]? = w.heap[b]? := fun b hb => hx.keep b hb (fun id n h => by cases h)
 have hnew : ∀ B n, ι' 0 = .blk B n → w.heap.size ≤ B := by
  intro B n h
  rcases hx.new 0 B n h with ⟨_, _, h0⟩ | h0
  ·cases h0
  ·exact h0
 have hιid : ι id = .dead := H.dead id hid
 have hst : Stay (Imm F ι w) (Imm F (updL ι id (ι' 0)) w') w w' := by
  refine ⟨fun b hb => ⟨Nat.lt_of_lt_of_le hb.1 hx.size, hb.2.1, fun k n hk => ?_⟩, fun b o v hb hc => by rw [cell_of_heap (hheap b hb.1)]; exact hc⟩
  by_cases h : k = id
  ·subst h
   rw [updL_same] at hk
   have := hnew b n hk
   have := hb.1
   omega
  ·rw [updL_ne _ _ h] at hk
   exact hb.2.2 k n hk
 have hsm : Same none' ι (updL ι id (ι' 0)) w w' := by
  refine ⟨fun k _ hne => ?_, fun k B n _ hB => blkSize_of_heap (hheap B (H.blk_lt hB))⟩
  by_cases h : k = id
  ·subst h; exact absurd hιid hne
  ·exact updL_ne _ _ h
 have himm : ∀ b, Imm (fun b => F b ∨ ∃ id n, ι id = .blk b n) ι' w' b → Imm F (updL ι id (ι' 0)) w' b := by
  rintro b ⟨q1, q2, q3⟩
  refine ⟨q1, fun hb => q2 (.inl hb), fun k n hk => ?_⟩
  by_cases h : k = id
  ·subst h
   rw [updL_same] at hk
   exact q3 0 n hk
  ·rw [updL_ne _ _ h] at hk
   exact q2 (.inr ⟨k, n, hk⟩)
 refine ⟨⟨hst, hsm, ⟨fun k e he => ?_, fun k hk => ?_, fun k k' B n n' h1 h2 => ?_, fun b hb => ?_⟩, ⟨hx.os, hx.tape, hx.output, hx.size, fun b hb _ => hheap b hb, fun k B n hB => ?_⟩⟩, ?_⟩
 ·by_cases h : k = id
  ·subst h
   rw [updE_same] at he
   obtain rfl := Option.some.inj he
   rw [updL_same]
   have h0 := Ho.ents 0 _ (updE_same _ _ _)
   have key : ∀ L, L = ι' 0 → repE (Imm F (updL ι k (ι' 0)) w') (updL ι k (ι' 0)) w' (.vec el te l) L := by
    intro L hL
    rw [← hL] at h0
    cases L with
    | blk B n =>
      obtain ⟨hn, arr, es, h1, h2, ha, hr⟩ := h0
      exact ⟨hn, arr, es, h1, h2, ha, repL_mono (fun _ _ hq => rep_stay ⟨himm, fun _ _ _ _ h => h⟩ hq) hr⟩
    | nilv => exact h0
    | dead => exact h0.elim
   exact key _ rfl
  ·rw [updE_ne _ _ h] at he
   rw [updL_ne _ _ h]
   exact repE_same hst hsm (fun B n hB => hheap B (H.blk_lt hB)) (H.ents k e he)
 ·by_cases h : k = id
  ·subst h; rw [updE_same] at hk; cases hk
  ·rw [updE_ne _ _ h] at hk
   rw [updL_ne _ _ h]
   exact H.dead k hk
 ·by_cases h : k = id
  ·subst h
   rw [updL_same] at h1
   by_cases h' : k' = k
   ·exact h'.symm
   ·rw [updL_ne _ _ h'] at h2
    have := hnew B n h1
    have := H.blk_lt h2
    omega
  ·rw [updL_ne _ _ h] at h1
   by_cases h' : k' = id
   ·subst h'
    rw [updL_same] at h2
    have := hnew B n' h2
    have := H.blk_lt h1
    omega
   ·rw [updL_ne _ _ h'] at h2
    exact H.inj _ _ _ _ _ h1 h2
 ·obtain ⟨h1, h2⟩ := H.foreign b hb
  refine ⟨Nat.lt_of_lt_of_le h1 hx.size, fun k n hk => ?_⟩
  by_cases h : k = id
  ·subst h
   rw [updL_same] at hk
   exact (Ho.foreign b (.inl hb)).2 0 n hk
  ·rw [updL_ne _ _ h] at hk
   exact h2 k n hk
 ·by_cases h : k = id
  ·subst h
   rw [updL_same] at hB
   exact .inr (hnew B n hB)
  ·rw [updL_ne _ _ h] at hB
   exact .inl ⟨k, n, hB⟩
 ·obtain ⟨cs, h1, h2⟩ := hv
  refine ⟨cs, ?_, h2⟩
  rw [repC] at h1 ⊢
  rw [updL_same]
  exact h1
end
end Go.Sw

namespace Go.Sw
def eqD : (t : T) → t.D → t.D → Bool
 | .bool, a, b => a == b
 | .int _, a, b => (a : Int) == b
 | .st fs, a, b => eqD fs a b
 | .one t, a, b => eqD t a b
 | .cons t ts, a, b => eqD t a.1 b.1 && eqD ts a.2 b.2
 | _, _, _ => false
def lits : (t : T) → t.D → List Lit
 | .bool, a => [.bool a]
 | .int k, a => [.int k a]
 | .st fs, a => lits fs a
 | .one t, a => lits t a
 | .cons t ts, a => lits t a.1 ++ lits ts a.2
 | _, _ => []
def T.plain : T → Bool
 | .bool | .int _ => true
 | .st fs => fs.plain
 | .one t => t.plain
 | .cons t ts => t.plain && ts.plain
 | _ => false
theorem lits_length : ∀ {t : T} {a : t.D}, t.plain = true → (lits t a).length = t.size := by
 intro t
 induction t with
 | bool => intro a _; rfl
 | int k => intro a _; rfl
 | st fs ih => intro a h; exact ih h
 | one t ih => intro a h; exact ih h
 | cons t ts ih1 ih2 =>
   intro a h
   rw [T.plain, Bool.and_eq_true] at h
   rw [lits, List.length_append, ih1 h.1, ih2 h.2, T.size]
 | _ => intro a h; cases h
theorem lits_iff : ∀ {t : T} {a b : t.D}, t.plain = true → (lits t a = lits t b ↔ eqD t a b = true) := by
 intro t
 induction t with
 | bool => intro a b _; simp [lits, eqD]
 | int k => intro a b _; simp [lits, eqD]
 | st fs ih => intro a b h; exact ih h
 | one t ih => intro a b h; exact ih h
 | cons t ts ih1 ih2 =>
   intro a b h
   rw [T.plain, Bool.and_eq_true] at h
   rw [lits, lits, eqD, Bool.and_eq_true, ← ih1 h.1, ← ih2 h.2]
   constructor
   ·intro he
    exact List.append_inj he (by rw [lits_length h.1, lits_length h.1])
   ·rintro ⟨h1, h2⟩; rw [h1, h2]
 | _ => intro a b h; cases h
section
variable {P : Program} {X : Ctx} {I : Nat → Prop} {ι : Nat → Loc} {w : World}
theorem keyLits_rep (K : TyOk P X) : ∀ (t : T),
 (∀ (tid d D : Nat) (x : t.D) (cs : List Value), X.ty tid = some t → eqOkAt P X d tid = true → d ≤ D → rep I w t x cs → P.keyLits D tid cs = some (lits t x) ∧ t.plain = true) ∧
 (∀ (fields : List Field) (off d D : Nat) (x : t.D) (pre cs post : List Value), fieldsOk X fields off t = true → (∀ f ∈ fields, f.name ≠ "_" ∧ eqOkAt P X d f.type = true) → d ≤ D → rep I w t x cs → pre.length = off →
   (∃ L, fields.mapM (fun f => P.keyLits D f.type (((pre ++ cs ++ post).drop f.offset).take (P.cellsOf f.type))) = some L ∧ L.flatten = lits t x) ∧ t.plain = true) := by
 intro t
 have field : ∀ {t : T} {f : Field} {d D : Nat} {x : t.D} {pre cs post : List Value}, (∀ (tid d D : Nat) (x : t.D) (cs : List Value), X.ty tid = some t → eqOkAt P X d tid = true → d ≤ D → rep I w t x cs → P.keyLits D tid cs = some (lits t x) ∧ t.plain = true) →
  X.ty f.type = some t → f.offset = pre.length → eqOkAt P X d f.type = true → d ≤ D → rep I w t x cs → P.keyLits D f.type (((pre ++ cs ++ post).drop f.offset).take (P.cellsOf f.type)) = some (lits t x) ∧ t.plain = true := by
  intro t f d D x pre cs post ih ht ho he hd hr
  obtain ⟨i, hi, hs, _⟩ := K.info ht
  have hc : P.cellsOf f.type = cs.length := by
   unfold Program.cellsOf
   rw [hi, rep_length hr]
   exact hs
  rw [hc, ho, List.append_assoc, List.drop_left, List.take_left]
  exact ih f.type d D x cs ht he hd hr
 induction t with
 | bool =>
   refine ⟨fun tid d D x cs ht he hd hr => ?_, fun fields off d D x pre cs post hf => ?_⟩
   ·obtain ⟨u, hu, hs⟩ := K.und ht
    cases d with
    | zero => cases he
    | succ d =>
    cases D with
    | zero => omega
    | succ D =>
    rw [rep] at hr
    subst hr
    cases u <;> first | (cases hs; done) | skip
    refine ⟨?_, rfl⟩
    unfold Program.keyLits
    rw [hu]
    rfl
   ·cases fields with
    | nil => cases hf
    | cons f fs => cases fs <;> cases hf
 | int k =>
   refine ⟨fun tid d D x cs ht he hd hr => ?_, fun fields off d D x pre cs post hf => ?_⟩
   ·obtain ⟨u, hu, hs⟩ := K.und ht
    cases d with
    | zero => cases he
    | succ d =>
    cases D with
    | zero => omega
    | succ D =>
    rw [rep] at hr
    obtain ⟨rfl, h1, h2⟩ := hr
    cases u <;> first | (cases hs; done) | skip
    rename_i k'
    have hk : k' = k := by simpa [shapeOk] using hs
    subst hk
    refine ⟨?_, rfl⟩
    unfold Program.keyLits
    rw [hu]
    simp [Lit.wf, h1, h2, lits]
   ·cases fields with
    | nil => cases hf
    | cons f fs => cases fs <;> cases hf
 | st fs ih =>
   refine ⟨fun tid d D x cs ht he hd hr => ?_, fun fields off d D x pre cs post hf => ?_⟩
   ·obtain ⟨u, hu, hs⟩ := K.und ht
    cases d with
    | zero => cases he
    | succ d =>
    cases D with
    | zero => omega
    | succ D =>
    unfold eqOkAt at he
    rw [hu] at he
    simp only [Bool.and_eq_true] at he
    cases u <;> first | (cases he.2; done) | (cases hs; done) | skip
    rename_i fields
    have hs' : fieldsOk X fields.toList 0 fs = true := hs
    have hall : ∀ f ∈ fields.toList, f.name ≠ "_" ∧ eqOkAt P X d f.type = true := by
     intro f hf
     have := Array.all_eq_true_iff_forall_mem.1 he.2 f (Array.mem_toList_iff.1 hf)
     simp only [Bool.and_eq_true, bne_iff_ne, ne_eq] at this
     exact this
    obtain ⟨⟨L, h1, h2⟩, h3⟩ := ih.2 fields.toList 0 d D x [] cs [] hs' hall (by omega) hr rfl
    refine ⟨?_, h3⟩
    unfold Program.keyLits
    rw [hu]
    simp only
    have hlen : cs.length = P.cellsOf tid := by
     obtain ⟨i, hi, hsz, _⟩ := K.info ht
     unfold Program.cellsOf
     rw [hi, rep_length hr]
     exact hsz.symm
    have hnames : fields.all (·.name != "_") = true := by
     rw [Array.all_eq_true_iff_forall_mem]
     intro f hf
     have := (hall f (Array.mem_toList_iff.2 hf)).1
     simpa using this
    rw [if_pos ⟨hlen, hnames⟩]
    simp only [List.nil_append, List.append_nil] at h1
    rw [h1, Option.map_some, h2]
    rfl
   ·cases fields with
    | nil => cases hf
    | cons f fs => cases fs <;> cases hf
 | one t ih =>
   refine ⟨fun tid d D x cs ht he hd hr => ?_, fun fields off d D x pre cs post hf hall hd hr hpre => ?_⟩
   ·obtain ⟨u, hu, hs⟩ := K.und ht
    cases u <;> cases hs
   ·cases fields with
    | nil => cases hf
    | cons f fs =>
      cases fs with
      | cons g gs => cases hf
      | nil =>
        simp only [fieldsOk, Bool.and_eq_true, decide_eq_true_eq, beq_iff_eq] at hf
        rw [rep] at hr
        obtain ⟨h1, h2⟩ := field (post := post) ih.1 hf.1.2 (by rw [hf.1.1, hpre]) (hall f (by simp)).2 hd hr
        refine ⟨⟨[lits t x], ?_, by simp [lits]⟩, h2⟩
        rw [List.mapM_cons, h1]
        rfl
 | cons t ts ih1 ih2 =>
   refine ⟨fun tid d D x cs ht he hd hr => ?_, fun fields off d D x pre cs post hf hall hd hr hpre => ?_⟩
   ·obtain ⟨u, hu, hs⟩ := K.und ht
    cases u <;> cases hs
   ·cases fields with
    | nil => cases hf
    | cons f fs =>
      cases fs with
      | nil => cases hf
      | cons g gs =>
        simp only [fieldsOk, Bool.and_eq_true, decide_eq_true_eq, beq_iff_eq] at hf
        rw [rep] at hr
        obtain ⟨c1, c2, rfl, hr1, hr2⟩ := hr
        obtain ⟨h1, h2⟩ := field (post := c2 ++ post) ih1.1 hf.1.1.2 (by rw [hf.1.1.1, hpre]) (hall f (by simp)).2 hd hr1
        obtain ⟨⟨L, h3, h4⟩, h5⟩ := ih2.2 (g :: gs) (off + t.size) d D x.2 (pre ++ c1) c2 post hf.2 (fun f' hf' => hall f' (by simp only [List.mem_cons] at hf' ⊢; exact .inr hf')) hd hr2 (by rw [List.length_append, hpre, rep_length hr1])
        refine ⟨⟨lits t x.1 :: L, ?_, by simp [lits, h4]⟩, by rw [T.plain, h2, h5]; rfl⟩
        have e1 : pre ++ c1 ++ (c2 ++ post) = pre ++ (c1 ++ c2) ++ post := by simp
        have e2 : pre ++ c1 ++ c2 ++ post = pre ++ (c1 ++ c2) ++ post := by simp
        rw [e1] at h1
        rw [e2] at h3
        rw [List.mapM_cons, h1, h3]
        rfl
 | _ =>
   refine ⟨fun tid d D x cs ht he hd hr => ?_, fun fields off d D x pre cs post hf => ?_⟩
   ·obtain ⟨u, hu, hs⟩ := K.und ht
    cases d with
    | zero => cases he
    | succ d =>
    unfold eqOkAt at he
    rw [hu] at he
    cases u <;> first | (cases hs; done) | (simp at he; done)
   ·cases fields with
    | nil => cases hf
    | cons f fs => cases fs <;> cases hf
def evEqS (X : Ctx) (op : BinOp) (t : TypeId) (x y : V) : Option V :=
 match x, y with
 | .d (.st fs) a, .d (.st gs) b =>
   if X.ty t = some (.st fs) ∧ X.eq t = true then
    (T.cast (a := .st gs) (.st fs) b).bind fun b' => (match op with | .eql => some (.d .bool (eqD fs a b')) | .neq => some (.d .bool (!(eqD fs a b'))) | _ => none)
   else none
 | _, _ => none
theorem evEqS_sound (K : TyOk P X) {op : BinOp} {t : TypeId} {x y v : V} (h : evEqS X op t x y = some v) {a b : Value} (ha : repV I ι w x a) (hb : repV I ι w y b) (px py : Operand) :
 ∃ u, ((do eqGuard op t px py a b; binOp op t a b) : Sem Value).run P w = .ok u w ∧ repV I ι w v u := by
 unfold evEqS at h
 split at h
 ·rename_i fs a' gs b'
  split at h
  ·rename_i hg
   obtain ⟨ht, heq⟩ := hg
   cases hcast : T.cast (a := .st gs) (.st fs) b' with
   | none => rw [hcast] at h; cases h
   | some b2 =>
     rw [hcast, Option.bind_some] at h
     obtain ⟨cs, hcs, rfl⟩ := repV_d ha
     obtain ⟨ds, hds0, rfl⟩ := repV_d hb
     have hds : rep I w (.st fs) b2 ds := rep_cast hcast hds0
     have hk := K.eq t
     unfold eqOk at hk
     rw [heq] at hk
     simp only [Bool.not_true, Bool.false_or, Bool.and_eq_true] at hk
     obtain ⟨⟨⟨k1, k2⟩, kg⟩, k3⟩ := hk
     simp only [Bool.not_eq_true'] at kg
     obtain ⟨l1, p1⟩ := (keyLits_rep (I := I) (w := w) K (.st fs)).1 t 6 6 a' cs ht k1 (Nat.le_refl _) hcs
     obtain ⟨l2, _⟩ := (keyLits_rep (I := I) (w := w) K (.st fs)).1 t 6 6 b2 ds ht k1 (Nat.le_refl _) hds
     obtain ⟨u, hu, hs⟩ := K.und ht
     cases u <;> first | (rw [hu] at k3; cases k3; done) | skip
     rename_i fields
     obtain ⟨i, hi, hsz, _⟩ := K.info ht
     have hcl : P.cellsOf t = (T.st fs).size := by unfold Program.cellsOf; rw [hi]; exact hsz
     have f1 : (mkVal true cs).formed P t = true := by
      simp [mkVal, Value.formed, hu, hcl, rep_length hcs]
     have f2 : (mkVal true ds).formed P t = true := by
      simp [mkVal, Value.formed, hu, hcl, rep_length hds]
     obtain ⟨r, hr, hiff⟩ := run_equalIn_deep (9994) 6 t k2 w 6 6 (mkVal true cs) (mkVal true ds) (lits (.st fs) a') (lits (.st fs) b2) f1 f2 (by simpa [mkVal, Value.cells] using l1) (by simpa [mkVal, Value.cells] using l2)
     have hrv : r = eqD fs a' b2 := by
      have := hiff.trans (lits_iff p1)
      have e : eqD (.st fs) a' b2 = eqD fs a' b2 := rfl
      rw [e] at this
      cases r <;> cases hq : eqD fs a' b2 <;> simp_all
     have he : (Op.equal t (mkVal true cs) (mkVal true ds)).run P w = .ok (eqD fs a' b2) w := by rw [← hrv]; exact hr
     have hg : (eqGuard op t px py (mkVal true cs) (mkVal true ds)).run P w = .ok () w := by
      cases op <;> first
       | rfl
       | simp [eqGuard, mkVal, kg]
     simp only [mkVal] at hg he
     have e1 : mkVal (T.st fs).isAgg cs = mkVal true cs := rfl
     have e2 : mkVal (T.st gs).isAgg ds = mkVal true ds := rfl
     rw [e1, e2]
     simp only [mkVal]
     split at h
     ·obtain rfl := Option.some.inj h
      exact ⟨.bool _, by simp only [Sem.run_bind, hg, Result.andThen_ok, binOp, he, Sem.run_pure, mkVal], repV_bool_mk _⟩
     ·obtain rfl := Option.some.inj h
      exact ⟨.bool _, by simp only [Sem.run_bind, hg, Result.andThen_ok, binOp, he, Sem.run_pure, mkVal], repV_bool_mk _⟩
     ·cases h
  ·cases h
 ·cases h
end
end Go.Sw

namespace Go.Sw
def dead (_ : Nat) : Loc := .dead
def CallPure (P : Program) (f : FuncId) (args : List V) (r : V) : Prop :=
 ∀ (F : Nat → Prop) (w : World) (vals : List Value), (∀ b, F b → b < w.heap.size) → Gl P F dead w → ArgsRep (Imm F dead w) dead w args vals →
  Calls P f vals.toArray w fun e w' => ∃ v, e = .returned v ∧ repV (Imm F dead w') dead w' r v ∧ Ext dead w dead w'
def V.pure : V → Bool
 | .un | .d .. | .nil | .vnil => true
 | .pt .. => true
 | .ptr .. | .elt .. | .vec .. | .sub .. => false
 | .fn _ a c => a.pure && c.pure
 | .agg l | .tup l => l.pure
 | .vcons a b => a.pure && b.pure
theorem repC_pure {I I' : Nat → Prop} {ι ι' : Nat → Loc} {w w' : World} (hs : Stay I I' w w') : ∀ {x : V} {cs : List Value}, x.pure = true → repC I ι w x cs → repC I' ι' w' x cs := by
 intro x
 induction x with
 | un => intro cs _ h; exact h
 | d t x => intro cs _ h; rw [repC] at h ⊢; exact rep_stay hs h
 | pt t x => intro cs _ h; rw [repC] at h ⊢; obtain ⟨b, o, es, h1, h2, h3, h4⟩ := h; exact ⟨b, o, es, h1, hs.imm _ h2, h3.stay hs h2, rep_stay hs h4⟩
 | nil => intro cs _ h; exact h
 | vnil => intro cs _ h; exact h
 | fn f a c ih1 ih2 =>
   intro cs hp h
   rw [V.pure, Bool.and_eq_true] at hp
   rw [repC] at h ⊢
   obtain ⟨va, vc, h1, h2, h3⟩ := h
   exact ⟨va, vc, h1, ih1 hp.1 h2, ih2 hp.2 h3⟩
 | agg l ih => intro cs hp h; rw [repC] at h ⊢; exact ih hp h
 | tup l ih => intro cs hp h; rw [repC] at h; exact h.elim
 | vcons a b ih1 ih2 =>
   intro cs hp h
   rw [V.pure, Bool.and_eq_true] at hp
   rw [repC] at h ⊢
   obtain ⟨c1, c2, h1, h2, h3⟩ := h
   exact ⟨c1, c2, h1, ih1 hp.1 h2, ih2 hp.2 h3⟩
 | _ => intro cs hp; cases hp
theorem repT_pure {I I' : Nat → Prop} {ι ι' : Nat → Loc} {w w' : World} (hs : Stay I I' w w') : ∀ {x : V} {vs : List Value}, x.pure = true → repT I ι w x vs → repT I' ι' w' x vs := by
 intro x
 induction x with
 | vnil => intro vs _ h; exact h
 | vcons a b ih1 ih2 =>
   intro vs hp h
   rw [V.pure, Bool.and_eq_true] at hp
   rw [repT] at h ⊢
   obtain ⟨v, vs', h1, ⟨cs, h2, h3⟩, h4⟩ := h
   exact ⟨v, vs', h1, ⟨cs, repC_pure hs hp.1 h2, h3⟩, ih2 hp.2 h4⟩
 | _ => intro vs _ h; simp only [repT] at h
theorem repV_pure {I I' : Nat → Prop} {ι ι' : Nat → Loc} {w w' : World} (hs : Stay I I' w w') {x : V} {v : Value} (hp : x.pure = true) (h : repV I ι w x v) : repV I' ι' w' x v := by
 have key : ∀ x : V, x.pure = true → (∃ cs, repC I ι w x cs ∧ v = mkVal x.isAgg cs) → (∃ cs, repC I' ι' w' x cs ∧ v = mkVal x.isAgg cs) :=
  fun x hp ⟨cs, h1, h2⟩ => ⟨cs, repC_pure hs hp h1, h2⟩
 cases x with
 | un => trivial
 | tup l => obtain ⟨vs, h1, h2⟩ := h; exact ⟨vs, h1, repT_pure hs hp h2⟩
 | _ => exact key _ hp h
theorem argsRep_pure {I I' : Nat → Prop} {ι ι' : Nat → Loc} {w w' : World} (hs : Stay I I' w w') : ∀ {xs : List V} {vs : List Value}, xs.all V.pure = true → ArgsRep I ι w xs vs → ArgsRep I' ι' w' xs vs := by
 intro xs
 induction xs with
 | nil => intro vs _ h; cases vs with | nil => trivial | cons _ _ => exact h.elim
 | cons x xs ih =>
   intro vs hp h
   rw [List.all_cons, Bool.and_eq_true] at hp
   cases vs with
   | nil => exact h.elim
   | cons v vs => exact ⟨repV_pure hs hp.1 h.1, ih hp.2 h.2⟩
def V.toL : V → List V
 | .vcons a b => a :: b.toL
 | _ => []
def coeArg (X : Ctx) (t : TypeId) (v : V) : V :=
 match v, X.ty t with
 | .nil, some (.sl te) => .d (.sl te) []
 | v, _ => v
theorem coeArg_sound {X : Ctx} {t : TypeId} {v : V} {I : Nat → Prop} {ι : Nat → Loc} {w : World} {u : Value} (h : repV I ι w v u) : repV I ι w (coeArg X t v) u := by
 unfold coeArg
 split
 ·obtain rfl := repV_nil h
  refine ⟨[.slice none 0 0], ?_, rfl⟩
  rw [repC, rep]
  exact ⟨none, 0, rfl, Nat.le_refl _, by decide, fun h => absurd rfl h⟩
 ·exact h
def oneV : V → Bool
 | .ptr .. | .elt .. => true
 | _ => false
def chainV : V → Bool
 | .vnil => true
 | .vcons a b => oneV a && chainV b
 | _ => false
def coeArgs (X : Ctx) : List TypeId → List V → List V
 | t :: ts, v :: vs => coeArg X t v :: coeArgs X ts vs
 | _, vs => vs
theorem coeArgs_sound {X : Ctx} {I : Nat → Prop} {ι : Nat → Loc} {w : World} : ∀ {xs : List V} {ts : List TypeId} {us : List Value}, ArgsRep I ι w xs us → ArgsRep I ι w (coeArgs X ts xs) us := by
 intro xs
 induction xs with
 | nil => intro ts us h; cases ts <;> exact h
 | cons x xs ih =>
   intro ts us h
   cases us with
   | nil => exact h.elim
   | cons u us =>
     cases ts with
     | nil => exact h
     | cons t ts => exact ⟨coeArg_sound h.1, ih h.2⟩
def ofL : List V → V
 | [] => .vnil
 | v :: vs => .vcons v (ofL vs)
def V.isVnil : V → Bool
 | .vnil => true
 | _ => false
def renL : List (Nat × Nat) → Nat → Nat → Nat
 | [], z, _ => z
 | (c, k) :: r, z, x => if c = x then k else renL r z x
def nodupL : List Nat → Bool
 | [] => true
 | x :: xs => !xs.contains x && nodupL xs
def callKill (ρ : List (Nat × Nat)) : List Nat := (ρ.filter fun p => low p.1).map (·.2)
def entsC (σ : Nat → Option E) (ρ : Nat → Nat) : List (Nat × E) → List Cnd
 | [] => []
 | (c, e) :: r => .p (σ (ρ c) = some (e.ren ρ)) :: entsC σ ρ r
def evCallS (P : Program) (σ : Nat → Option E) (id : Nat) (g : Nat) (args : List V) (σi : List (Nat × E)) (as : List V) (ρ : List (Nat × Nat)) (r : V) (σo : List (Nat × E)) : Option Out :=
 if σi.map (·.1) = ρ.map (·.1) ∧ σo.map (·.1) = ρ.map (·.1) ∧ nodupL (ρ.map (·.1)) = true ∧ nodupL (ρ.map (·.2)) = true then
  some ⟨r.ren (renL ρ id), callKill ρ, σo.map fun p => (renL ρ id p.1, p.2.ren (renL ρ id)), .p (args = as.map (V.ren (renL ρ id))) :: .p (CallSt P g as σi r σo) :: entsC σ (renL ρ id) σi⟩
 else none
def evCall (P : Program) (X : Ctx) (L : Operand → V) (σ : Nat → Option E) (id : Nat) (h : Hint) (c : Call) : Option Out :=
 match c.callee with
 | .builtin .len => (match c.args.toList, c.argTypes.toList with | [x], [t] => evLen X σ t (L x) | _, _ => none)
 | .builtin .append => (match c.args.toList, c.argTypes.toList with | [s, x], [t, t'] => if t = t' then evAppend X σ h id t (L s) (L x) else none | _, _ => none)
 | .builtin .max => evMaxMin max2i (c.args.toList.map L)
 | .builtin .min => evMaxMin min2i (c.args.toList.map L)
 | .value f =>
   (match L f, h with
    | .fn g fst cap, .call r =>
      if X.fn g = true ∧ fst.isVnil = true ∧ cap.isVnil = true ∧ (coeArgs X c.argTypes.toList (c.args.toList.map L)).all V.pure = true ∧ r.pure = true then
       Out.val r [.p (CallPure P g (coeArgs X c.argTypes.toList (c.args.toList.map L)) r)]
      else none
    | .fn g fst cap, .callO el te l =>
      if X.fn g = true ∧ fst.isVnil = true ∧ cap.isVnil = true ∧ (coeArgs X c.argTypes.toList (c.args.toList.map L)).all V.pure = true then
       some ⟨.vec id te, [], [(id, .vec el te l)], [.p (CallOwn P g (coeArgs X c.argTypes.toList (c.args.toList.map L)) el te l)]⟩
      else none
    | .fn g fst cap, .callS σi as ρ r σo => if X.fn g = true ∧ chainV fst = true ∧ chainV cap = true then evCallS P σ id g (fst.toL ++ (coeArgs X c.argTypes.toList (c.args.toList.map L) ++ cap.toL)) σi as ρ r σo else none
    | _, _ => none)
 | _ => none
def parts (L : Operand → V) (ps : Array (Nat × Operand)) : List (Nat × V) := ps.toList.map fun p => (p.1, L p.2)
def evPick (c a b : V) : Option Out :=
 match c with
 | .d .bool β =>
   (match a, b with
    | .d .bool x, .d .bool y => Out.val (.d .bool (bif β then x else y)) []
    | a, b => (match β with | true => Out.val a [] | false => Out.val b []))
 | _ => none
def setNil (v : V) : V → Nat → Option V
 | .vcons .nil b, 0 => some (.vcons v b)
 | .vcons a b, i + 1 => (setNil v b i).map (V.vcons a)
 | _, _ => none
theorem setNil_sound {I I' : Nat → Prop} {ι ι' : Nat → Loc} {w w' : World} (hs : Stay I I' w w') (hl : Same none' ι ι' w w') {k : Nat} {te : T} (hk : ι' k = .nilv) : ∀ {c : V} {i : Nat} {c' : V} {cs : List Value}, setNil (.vec k te) c i = some c' → repC I ι w c cs → repC I' ι' w' c' cs := by
 intro c
 induction c with
 | vcons a b ih1 ih2 =>
   intro i c' cs h hr
   rw [repC] at hr
   obtain ⟨c1, c2, rfl, h1, h2⟩ := hr
   cases i with
   | zero =>
     cases a <;> first | (cases h; done) | skip
     obtain rfl := Option.some.inj h
     rw [repC] at h1
     subst h1
     rw [repC]
     exact ⟨_, _, rfl, by rw [repC]; exact .inl ⟨hk, rfl⟩, repC_same hs hl h2⟩
   | succ i =>
     have h' : (setNil (.vec k te) b i).map (V.vcons a) = some c' := by cases a <;> exact h
     cases hz : setNil (.vec k te) b i with
     | none => rw [hz] at h'; cases h'
     | some z =>
       rw [hz] at h'
       obtain rfl := Option.some.inj h'
       rw [repC]
       exact ⟨_, _, rfl, repC_same hs hl h1, ih2 hz h2⟩
 | _ => intro i c' cs h; cases i <;> cases h
def nilAt : V → Option Nat
 | .vcons .nil _ => some 0
 | .vcons _ b => (nilAt b).map (· + 1)
 | _ => none
def evBuildN (X : Ctx) (h : Hint) (id : Nat) (t : TypeId) (ps : List (Nat × V)) : Option Out :=
 match h with
 | .callO el te _ => (evBuild X .part t ps).bind fun o => match o.v with
   | .agg c => (nilAt c).bind fun i => (setNil (.vec id te) c i).map fun c' => ⟨.agg c', [], [(id, .vec el te [])], []⟩
   | _ => none
 | h => evBuild X h t ps
def evOpA (P : Program) (X : Ctx) (L : Operand → V) (σ : Nat → Option E) (id : Nat) (h : Hint) (o : Op) : Option Out :=
 match o with
 | .move x | .assign x => Out.val (L x) []
 | .pick c a b => evPick (L c) (L a) (L b)
 | .alloc t => evAlloc X h id t
 | .box t v => evBox id t (L v)
 | .build t ps => evBuildN X h id t (parts L ps)
 | .buildSlice t n ps => evRow X h id t n (parts L ps)
 | .load t a => evLoad X σ t (L a)
 | .store t a v => evStore X σ t (L a) (L v)
 | .nilCheck x => (match L x with | .ptr k o => Out.val (.ptr k o) [] | .pt t y => Out.val (.pt t y) [] | .elt k t i o => Out.val (.elt k t i o) [] | _ => none)
 | .binOp op t x y _ => ((evBin op (X.ty t) (L x) (L y)).or ((evEqS X op t (L x) (L y)).map fun v => (v, []))).bind fun r => Out.val r.1 r.2
 | .unOp op _ x => (evUn op (L x)).bind fun v => Out.val v []
 | .convert s d x => evConvert X s d (L x)
 | .makeSlice t l c => evMake X id t (L l) (L c)
 | .slice t x lo hi mx => (evSlice X t (L x) (lo.map L) (hi.map L) (mx.map L)).or (evSliceV X σ t (L x) (lo.map L) (hi.map L) (mx.map L))
 | .fieldAddr s x f => evFieldAddr X s (L x) f
 | .field s x f => evField X s (L x) f
 | .indexAddr t x i => evIndexAddr X σ t (L x) (L i)
 | .index t x i => evIndex X t (L x) (L i)
 | .extract t i => evExtract (L t) i
 | .call c => evCall P X L σ id h c
 | .makeFunc (.func f) fst cap => if (fst.toList.map L).all oneV = true ∧ (cap.toList.map L).all oneV = true then Out.val (.fn f (ofL (fst.toList.map L)) (ofL (cap.toList.map L))) [] else none
 | _ => none
section
variable {P : Program} {X : Ctx} {F : Nat → Prop} {σ : Nat → Option E} {ι : Nat → Loc} {w : World} {I : Nat → Prop}
theorem evConst_sound (v : Value) : repV I ι w (evConst v) v := by
 unfold evConst
 split
 ·exact repV_bool_mk _
 ·split
  ·rename_i h; exact repV_int_mk h
  ·trivial
 ·split
  ·rename_i h; exact repV_str_mk h
  ·trivial
 ·exact repV_nil_mk
 ·exact ⟨[.pointer none], by rw [repC, rep]; rfl, rfl⟩
 ·exact ⟨[.nilIface], by rw [repC, rep]; rfl, rfl⟩
 ·trivial
theorem look_sound {γ : Nat → V} {a : Act} (hs : ∀ t, repV I ι w (γ t) (a.tmps.getD t undef)) (x : Operand) : repV I ι w (look γ x) (a.eval x) := by
 cases x with
 | tmp t => exact hs t
 | const v => exact evConst_sound v
 | global g => trivial
 | func f => exact ⟨[.func (.func f) #[] #[]], by rw [look, repC]; exact ⟨#[], #[], rfl, by rw [repC], by rw [repC]⟩, rfl⟩
theorem partsRep (L : Operand → V) (ρ : Operand → Value) (hL : ∀ x, repV I ι w (L x) (ρ x)) (ps : Array (Nat × Operand)) : PartsRep I ι w (parts L ps) (ps.map fun p => (p.1, ρ p.2)).toList := by
 unfold PartsRep parts
 refine ⟨by simp, fun j hj hj' => ?_⟩
 simp at hj hj' ⊢
 exact hL _
theorem argsRep (L : Operand → V) (ρ : Operand → Value) (hL : ∀ x, repV I ι w (L x) (ρ x)) : ∀ xs : List Operand, ArgsRep I ι w (xs.map L) (xs.map ρ) := by
 intro xs
 induction xs with
 | nil => trivial
 | cons x xs ih => exact ⟨hL x, ih⟩
theorem optRep (L : Operand → V) (ρ : Operand → Value) (hL : ∀ x, repV I ι w (L x) (ρ x)) (x : Option Operand) : OptRep I ι w (x.map L) (x.map ρ) := by
 cases x with
 | none => trivial
 | some x => exact hL x
theorem wp_value {o : Oper} {a : Act} {K : Act → World → Prop} {Q : Exit → Act → World → Prop} {u : Value} {w' : World} (h : (execOp a.eval o).run P w = .ok (.value u) w') (hk : K (a.put o.dst u) w') : o.wp P a w K Q := by
 unfold Oper.wp
 rw [h]
 exact hk
theorem Turn.call (H : HoldsE F σ ι w) {w' : World} (hx : Ext dead w dead w') : Turn F none' ι w σ ι w' := by
 have hheap : ∀ b, b < w.heap.size → w'.heap[b]? = w.heap[b]? := fun b hb => hx.keep b hb (fun id n h => by cases h)
 have hst : Stay (Imm F ι w) (Imm F ι w') w w' := ⟨fun b hb => ⟨Nat.lt_of_lt_of_le hb.1 hx.size, hb.2⟩, fun b o v hb hc => by rw [cell_of_heap (hheap b hb.1)]; exact hc⟩
 have hsm : Same none' ι ι w w' := ⟨fun _ _ _ => rfl, fun id B n _ hB => blkSize_of_heap (hheap B (H.blk_lt hB))⟩
 refine ⟨hst, hsm, ⟨fun id e he => repE_same hst hsm (fun B n hB => hheap B (H.blk_lt hB)) (H.ents id e he), H.dead, H.inj, fun b hb => ?_⟩, ⟨hx.os, hx.tape, hx.output, hx.size, fun b hb _ => hheap b hb, fun id B n h => .inl ⟨id, n, h⟩⟩⟩
 obtain ⟨h1, h2⟩ := H.foreign b hb
 exact ⟨Nat.lt_of_lt_of_le h1 hx.size, h2⟩
theorem run_max_ (ts : Array TypeId) (t : TypeId) (v : Value) (r : List Value) : Builtin.max_ ts t (v :: r).toArray = r.foldlM Builtin.max2 v := rfl
theorem run_min_ (ts : Array TypeId) (t : TypeId) (v : Value) (r : List Value) : Builtin.min_ ts t (v :: r).toArray = r.foldlM Builtin.min2 v := rfl
theorem nodupL_spec : ∀ {l : List Nat}, nodupL l = true → l.Nodup := by
 intro l
 induction l with
 | nil => intro _; exact List.nodup_nil
 | cons x xs ih =>
   intro h
   rw [nodupL, Bool.and_eq_true] at h
   rw [List.nodup_cons]
   exact ⟨by simpa using h.1, ih h.2⟩
theorem renL_mem {z : Nat} : ∀ {ρ : List (Nat × Nat)} {c : Nat}, c ∈ ρ.map (·.1) → (c, renL ρ z c) ∈ ρ := by
 intro ρ
 induction ρ with
 | nil => intro c h; simp at h
 | cons p ρ ih =>
   intro c h
   obtain ⟨a, k⟩ := p
   rw [renL]
   split
   ·rename_i hc; subst hc; simp
   ·rename_i hc
    rw [List.map_cons, List.mem_cons] at h
    rcases h with h | h
    ·exact absurd h.symm hc
    ·exact List.mem_cons_of_mem _ (ih h)
theorem renL_none {z : Nat} : ∀ {ρ : List (Nat × Nat)} {c : Nat}, c ∉ ρ.map (·.1) → renL ρ z c = z := by
 intro ρ
 induction ρ with
 | nil => intro c h; rfl
 | cons p ρ ih =>
   intro c h
   obtain ⟨a, k⟩ := p
   rw [List.map_cons, List.mem_cons] at h
   rw [renL, if_neg (fun e => h (.inl e.symm))]
   exact ih fun hc => h (.inr hc)
theorem getE_dom : ∀ {σ : List (Nat × E)} {c : Nat}, getE σ c ≠ none ↔ c ∈ σ.map (·.1) := by
 intro σ
 induction σ with
 | nil => intro c; simp [getE]
 | cons p σ ih =>
   intro c
   obtain ⟨a, e⟩ := p
   rw [getE, List.map_cons, List.mem_cons]
   split
   ·rename_i h; subst h; simp
   ·rename_i h
    rw [ih]
    constructor
    ·exact .inr
    ·rintro (h' | h')
     ·exact absurd h'.symm h
     ·exact h'
theorem pair_inj {ρ : List (Nat × Nat)} (h : (ρ.map (·.2)).Nodup) : ∀ {a b k : Nat}, (a, k) ∈ ρ → (b, k) ∈ ρ → a = b := by
 induction ρ with
 | nil => intro a b k h1; cases h1
 | cons p ρ ih =>
   intro a b k h1 h2
   rw [List.map_cons, List.nodup_cons] at h
   rcases List.mem_cons.1 h1 with h1 | h1 <;> rcases List.mem_cons.1 h2 with h2 | h2
   ·rw [← h1] at h2; exact (Prod.mk.inj h2).1.symm
   ·exfalso; rw [← h1] at h; exact h.1 (List.mem_map.2 ⟨_, h2, rfl⟩)
   ·exfalso; rw [← h2] at h; exact h.1 (List.mem_map.2 ⟨_, h1, rfl⟩)
   ·exact ih h.2 h1 h2
theorem entsC_spec {σ : Nat → Option E} {ρ : Nat → Nat} : ∀ {σi : List (Nat × E)}, AllTrue (entsC σ ρ σi) → ∀ c e, getE σi c = some e → σ (ρ c) = some (e.ren ρ) := by
 intro σi
 induction σi with
 | nil => intro _ c e h; cases h
 | cons p σi ih =>
   intro h c e he
   obtain ⟨a, e0⟩ := p
   rw [getE] at he
   split at he
   ·rename_i hc; subst hc; obtain rfl := Option.some.inj he; exact h.1
   ·exact ih h.2 c e he
theorem updAll_out {σ : Nat → Option E} : ∀ {us : List (Nat × E)} {k : Nat}, k ∉ us.map (·.1) → updAll σ us k = σ k := by
 intro us
 induction us generalizing σ with
 | nil => intro k _; rfl
 | cons u us ih =>
   intro k h
   obtain ⟨j, e⟩ := u
   simp at h
   rw [updAll, ih (by simpa using h.2), updE_ne _ _ h.1]
theorem updAll_get {σ : Nat → Option E} {ρ : Nat → Nat} {f : E → E} : ∀ {σo : List (Nat × E)}, (σo.map (·.1)).Nodup → (∀ a ∈ σo.map (·.1), ∀ b ∈ σo.map (·.1), ρ a = ρ b → a = b) → ∀ {c : Nat} {e : E}, getE σo c = some e →
 updAll σ (σo.map fun p => (ρ p.1, f p.2)) (ρ c) = some (f e) := by
 intro σo
 induction σo generalizing σ with
 | nil => intro _ _ c e h; cases h
 | cons p σo ih =>
   intro hn hi c e he
   obtain ⟨a, e0⟩ := p
   rw [List.map_cons, List.nodup_cons] at hn
   rw [List.map_cons, updAll]
   rw [getE] at he
   split at he
   ·rename_i hc
    subst hc
    obtain rfl := Option.some.inj he
    rw [updAll_out, updE_same]
    intro hm
    rw [List.map_map, List.mem_map] at hm
    obtain ⟨q, hq, hqe⟩ := hm
    have hqm : q.1 ∈ σo.map (·.1) := List.mem_map.2 ⟨q, hq, rfl⟩
    have := hi q.1 (by rw [List.map_cons]; exact List.mem_cons_of_mem _ hqm) a (by simp) hqe
    rw [this] at hqm
    exact hn.1 hqm
   ·exact ih hn.2 (fun x hx y hy => hi x (by rw [List.map_cons]; exact List.mem_cons_of_mem _ hx) y (by rw [List.map_cons]; exact List.mem_cons_of_mem _ hy)) he
theorem repT_args {I : Nat → Prop} {ι : Nat → Loc} {w : World} : ∀ {x : V} {cs : List Value}, chainV x = true → repC I ι w x cs → ArgsRep I ι w x.toL cs := by
 intro x
 induction x with
 | vnil => intro cs _ h; rw [repC] at h; subst h; trivial
 | vcons a b ih1 ih2 =>
   intro cs hv h
   rw [chainV, Bool.and_eq_true] at hv
   rw [repC] at h
   obtain ⟨c1, c2, rfl, h1, h2⟩ := h
   have : ∃ v, c1 = [v] ∧ repV I ι w a v := by
    have hs := hv.1
    cases a <;> simp only [oneV] at hs <;> first | (cases hs; done) | skip
    case ptr k o => obtain ⟨B, n, q1, rfl⟩ := h1; exact ⟨_, rfl, [_], by rw [repC]; exact ⟨B, n, q1, rfl⟩, rfl⟩
    case elt k t i o => obtain ⟨B, n, q1, rfl⟩ := h1; exact ⟨_, rfl, [_], by rw [repC]; exact ⟨B, n, q1, rfl⟩, rfl⟩
   obtain ⟨v, rfl, hv1⟩ := this
   exact ⟨hv1, ih2 hv.2 h2⟩
 | _ => intro cs hv h; cases hv
theorem ofL_args {I : Nat → Prop} {ι : Nat → Loc} {w : World} : ∀ {xs : List V} {vs : List Value}, xs.all oneV = true → ArgsRep I ι w xs vs → repC I ι w (ofL xs) vs := by
 intro xs
 induction xs with
 | nil => intro vs _ h; cases vs with | nil => rw [ofL, repC] | cons _ _ => exact h.elim
 | cons x xs ih =>
   intro vs hv h
   rw [List.all_cons, Bool.and_eq_true] at hv
   cases vs with
   | nil => exact h.elim
   | cons v vs =>
     rw [ofL, repC]
     refine ⟨[v], vs, rfl, ?_, ih hv.2 h.2⟩
     have hs := hv.1
     have h1 := h.1
     cases x <;> simp only [oneV] at hs <;> first | (cases hs; done) | skip
     case ptr k o => obtain ⟨cs, q1, rfl⟩ := h1; have q2 := q1; rw [repC] at q2; obtain ⟨B, n, _, rfl⟩ := q2; exact q1
     case elt k t i o => obtain ⟨cs, q1, rfl⟩ := h1; have q2 := q1; rw [repC] at q2; obtain ⟨B, n, _, rfl⟩ := q2; exact q1
theorem argsRep_append {I : Nat → Prop} {ι : Nat → Loc} {w : World} : ∀ {xs ys : List V} {us vs : List Value}, ArgsRep I ι w xs us → ArgsRep I ι w ys vs → ArgsRep I ι w (xs ++ ys) (us ++ vs) := by
 intro xs
 induction xs with
 | nil => intro ys us vs h1 h2; cases us with | nil => exact h2 | cons _ _ => exact h1.elim
 | cons x xs ih => intro ys us vs h1 h2; cases us with | nil => exact h1.elim | cons u us => exact ⟨h1.1, ih h1.2 h2⟩
theorem evCallS_sound (H : HoldsE F σ ι w) (hG : Gl P F ι w) {id : Nat} (hid : σ id = none) {g : Nat} {args : List V} {σi : List (Nat × E)} {as : List V} {ρ : List (Nat × Nat)} {r : V} {σo : List (Nat × E)} {out : Out}
 (hev : evCallS P σ id g args σi as ρ r σo = some out) (hc : AllTrue out.c) {vals : List Value} (ha : ArgsRep (Imm F ι w) ι w args vals) :
 Calls P g vals.toArray w fun e w' => ∃ v, e = .returned v ∧ Done F σ ι w out v w' := by
 unfold evCallS at hev
 split at hev
 ·rename_i hg
  obtain ⟨k1, k2, k3, k4⟩ := hg
  obtain rfl := Option.some.inj hev
  obtain ⟨c1, c2, c3⟩ := hc
  have n1 := nodupL_spec k3
  have n2 := nodupL_spec k4
  have hents := entsC_spec c3
  have hdi : ∀ c, getE σi c ≠ none ↔ c ∈ ρ.map (·.1) := fun c => by rw [getE_dom, k1]
  have hdo : ∀ c, getE σo c ≠ none ↔ c ∈ ρ.map (·.1) := fun c => by rw [getE_dom, k2]
  have hinj : ∀ a ∈ ρ.map (·.1), ∀ b ∈ ρ.map (·.1), renL ρ id a = renL ρ id b → a = b := by
   intro a ha b hb hab
   have q1 := renL_mem (z := id) ha
   have q2 := renL_mem (z := id) hb
   rw [hab] at q1
   exact pair_inj n2 q1 q2
  have hkill : ∀ c, c ∈ ρ.map (·.1) → (killP (callKill ρ) (renL ρ id c) = false → low c = false) := by
   intro c hc hk
   have hm := renL_mem (z := id) hc
   cases hl : low c with
   | false => rfl
   | true =>
     have : renL ρ id c ∈ callKill ρ := List.mem_map.2 ⟨_, List.mem_filter.2 ⟨hm, hl⟩, rfl⟩
     unfold killP at hk
     simp at hk
     exact absurd this hk
  obtain ⟨Fc, ιc, Hc, hFc, hargs, hback⟩ := Turn.callSt H (σi := getE σi) (σo := getE σo) (σ' := after σ ⟨r.ren (renL ρ id), callKill ρ, σo.map fun p => (renL ρ id p.1, p.2.ren (renL ρ id)), []⟩) (ρ := renL ρ id) (p := killP (callKill ρ)) (z := id) hid
   (fun c hcn => renL_none fun hm => (hdi c).2 hm hcn) hents (fun c c' q1 q2 q3 => hinj c ((hdi c).1 q1) c' ((hdi c').1 q2) q3)
   (fun c => by
     constructor
     ·intro h
      cases hh : getE σi c with
      | none => rfl
      | some e => exact absurd h ((hdo c).2 ((hdi c).1 (by rw [hh]; simp)))
     ·intro h
      cases hh : getE σo c with
      | none => rfl
      | some e => exact absurd h ((hdi c).2 ((hdo c).1 (by rw [hh]; simp))))
   (fun c e he => by
     unfold after
     exact updAll_get (f := E.ren (renL ρ id)) (by rw [k2]; exact n1) (by rw [k2]; exact hinj) he)
   (fun k hk => by
     unfold after
     refine updAll_out fun hm => ?_
     rw [List.map_map, List.mem_map] at hm
     obtain ⟨q, hq, hqe⟩ := hm
     exact hk q.1 ((hdi _).2 (by rw [← k2]; exact List.mem_map.2 ⟨q, hq, rfl⟩)) hqe)
   (fun c hcn hp => hkill c ((hdi c).1 hcn) hp)
  rw [c1] at ha
  refine (c2 Fc ιc w vals Hc (hG.imm hFc) (hargs _ _ ha)).mono ?_
  rintro e w' ⟨v, ιc', rfl, hrv, Ho, hx⟩
  obtain ⟨ι', ht, hr⟩ := hback ιc' w' Ho hx
  exact ⟨v, rfl, ι', hr r v hrv, ht⟩
 ·cases hev
theorem evCall_wp (K : TyOk P X) (H : HoldsE F σ ι w) (hG : Gl P F ι w) {γ : Nat → V} {a : Act} (hs : ∀ t, repV (Imm F ι w) ι w (γ t) (a.tmps.getD t undef)) {id : Nat} (hid : σ id = none) {h : Hint} {c : Call} {o : Oper} (ho : o.op = .call c) {out : Out}
 (hev : evCall P X (look γ) σ id h c = some out) (hc : AllTrue out.c) {Q : Exit → Act → World → Prop} :
 o.wp P a w (fun a' w' => ∃ u, a' = a.put o.dst u ∧ Done F σ ι w out u w') Q := by
 have hL := look_sound (I := Imm F ι w) (ι := ι) (w := w) hs
 obtain ⟨callee, args, argTypes⟩ := c
 unfold evCall at hev
 simp only at hev
 have bi : ∀ {b : Builtin} {u : Value} {w' : World}, callee = .builtin b → ((builtin b argTypes o.type (args.map fun | .const _ => true | _ => false) (args.map a.eval)).run P w = .ok (.value u) w') →
  (execOp a.eval o).run P w = .ok (.value u) w' := by
  intro b u w' hb hr
  subst hb
  unfold execOp
  simp only [ho, resolve, Sem.run_bind, Sem.run_pure, Result.andThen_ok, invoke]
  exact hr
 cases callee with
 | invoke r m => cases hev
 | builtin b =>
   cases b <;> first | (cases hev; done) | skip
   case append =>
    simp only at hev
    split at hev
    ·rename_i s x t t' h1 h2
     split at hev
     ·rename_i ht
      subst ht
      have ha : args.map a.eval = #[a.eval s, a.eval x] := by apply Array.ext'; simp [h1]
      have hat : argTypes = #[t, t] := by apply Array.ext'; simp [h2]
      obtain ⟨u, w', hr, hd⟩ := evAppend_sound (ty := o.type) K H hid hev hc (hL s) (hL x)
      refine wp_value (bi rfl ?_) ⟨u, rfl, hd⟩
      rw [ha, hat]
      simp only [builtin, Sem.run_bind, hr, Result.andThen_ok, Sem.run_pure]
     ·cases hev
    ·cases hev
   case len =>
    simp only at hev
    split at hev
    ·rename_i x t h1 h2
     have ha : args.map a.eval = #[a.eval x] := by apply Array.ext'; simp [h1]
     have hat : argTypes = #[t] := by apply Array.ext'; simp [h2]
     obtain ⟨k1, k2, u, hr, hd⟩ := evLen_sound (ty := o.type) K H hev (hL x)
     refine wp_value (bi rfl ?_) ⟨u, rfl, Done.pure H k1 k2 hd⟩
     rw [ha, hat]
     simp only [builtin, Sem.run_bind, hr, Result.andThen_ok, Sem.run_pure]
    ·cases hev
   case max =>
    obtain ⟨k1, k2, v, r, u, hv, hr, hd⟩ := evMaxMin_sound (P := P) (I := Imm F ι w) (ι := ι) (w := w) (g := Builtin.max2) hev (fun _ _ _ _ => rfl) (fun a b => by unfold max2i; split <;> simp) (argsRep (look γ) a.eval hL args.toList)
    refine wp_value (bi rfl ?_) ⟨u, rfl, Done.pure H k1 k2 hd⟩
    have ha : args.map a.eval = (v :: r).toArray := by apply Array.ext'; simpa using hv
    rw [ha]
    simp only [builtin, Sem.run_bind, run_max_, hr, Result.andThen_ok, Sem.run_pure]
   case min =>
    obtain ⟨k1, k2, v, r, u, hv, hr, hd⟩ := evMaxMin_sound (P := P) (I := Imm F ι w) (ι := ι) (w := w) (g := Builtin.min2) hev (fun _ _ _ _ => rfl) (fun a b => by unfold min2i; split <;> simp) (argsRep (look γ) a.eval hL args.toList)
    refine wp_value (bi rfl ?_) ⟨u, rfl, Done.pure H k1 k2 hd⟩
    have ha : args.map a.eval = (v :: r).toArray := by apply Array.ext'; simpa using hv
    rw [ha]
    simp only [builtin, Sem.run_bind, run_min_, hr, Result.andThen_ok, Sem.run_pure]
 | value f =>
   simp only at hev
   split at hev
   ·rename_i g fst cap r hf
    split at hev
    ·rename_i hg
     obtain ⟨hfn, h1, h2, h3, h4⟩ := hg
     obtain rfl := Option.some.inj hev
     have hcall := hc.1
     have hfst : fst = .vnil := by cases fst <;> first | rfl | (cases h1; done)
     have hcap : cap = .vnil := by cases cap <;> first | rfl | (cases h2; done)
     subst hfst
     subst hcap
     have hfv := hL f
     rw [hf] at hfv
     obtain ⟨cs, hcs, hfe⟩ := hfv
     rw [repC] at hcs
     obtain ⟨va, vc, rfl, hva, hvc⟩ := hcs
     rw [repC] at hva hvc
     have hva' : va = #[] := by apply Array.ext'; simpa using hva
     have hvc' : vc = #[] := by apply Array.ext'; simpa using hvc
     subst hva'
     subst hvc'
     have hfe' : a.eval f = .func (.func g) #[] #[] := hfe
     have hk := K.fn g
     unfold fnOk at hk
     rw [hfn] at hk
     simp only [Bool.not_true, Bool.false_or] at hk
     cases hfg : P.funcs[g]? with
     | none => rw [hfg] at hk; cases hk
     | some fn =>
       rw [hfg] at hk
       simp only [Bool.and_eq_true, Bool.not_eq_true'] at hk
       have hexec : (execOp a.eval o).run P w = .ok (.enter g (args.map a.eval)) w := by
        unfold execOp
        simp only [ho, resolve, hfe', Deferred.ofValue, Sem.run_bind, Sem.run_pure, Result.andThen_ok, invoke, callFunc, run_program, hfg, hk.1, hk.2, Bool.false_eq_true, if_false, Array.empty_append, Array.append_empty]
       unfold Oper.wp
       rw [hexec, Oper.upon_enter]
       have hF : ∀ b, (F b ∨ ∃ id n, ι id = .blk b n) → b < w.heap.size := by
        rintro b (hb | ⟨id, n, hb⟩)
        ·exact (H.foreign b hb).1
        ·exact H.blk_lt hb
       have himm : ∀ w'' : World, ∀ b, Imm (fun b => F b ∨ ∃ id n, ι id = .blk b n) dead w'' b ↔ Imm F ι w'' b := by
        intro w'' b
        unfold Imm
        constructor
        ·rintro ⟨q1, q2, q3⟩
         exact ⟨q1, fun hb => q2 (.inl hb), fun id n hb => q2 (.inr ⟨id, n, hb⟩)⟩
        ·rintro ⟨q1, q2, q3⟩
         refine ⟨q1, ?_, fun id n hb => by cases hb⟩
         rintro (hb | ⟨id, n, hb⟩)
         ·exact q2 hb
         ·exact q3 id n hb
       have hargs := coeArgs_sound (X := X) (ts := argTypes.toList) (argsRep (look γ) a.eval hL args.toList)
       have hargs' := argsRep_pure (I' := Imm (fun b => F b ∨ ∃ id n, ι id = .blk b n) dead w) (ι' := dead) (w' := w) ⟨fun b hb => (himm w b).2 hb, fun _ _ _ _ h => h⟩ h3 hargs
       have := hcall _ w _ hF (hG.imm fun b hb => (himm w b).2 hb) hargs'
       have hav : (args.toList.map a.eval).toArray = args.map a.eval := by apply Array.ext'; simp
       rw [hav] at this
       refine this.mono ?_
       rintro e w' ⟨v, rfl, hrv, hx⟩
       have ht := Turn.call H hx
       exact ⟨v, rfl, Done.upd0 rfl rfl (repV_pure ⟨fun b hb => (himm w' b).1 hb, fun _ _ _ _ h => h⟩ h4 hrv) ht⟩
    ·cases hev
   ·rename_i g fst cap el te l hf
    split at hev
    ·rename_i hg
     obtain ⟨hfn, h1, h2, h3⟩ := hg
     obtain rfl := Option.some.inj hev
     have hcall := hc.1
     have hfst : fst = .vnil := by cases fst <;> first | rfl | (cases h1; done)
     have hcap : cap = .vnil := by cases cap <;> first | rfl | (cases h2; done)
     subst hfst
     subst hcap
     have hfv := hL f
     rw [hf] at hfv
     obtain ⟨cs, hcs, hfe⟩ := hfv
     rw [repC] at hcs
     obtain ⟨va, vc, rfl, hva, hvc⟩ := hcs
     rw [repC] at hva hvc
     have hva' : va = #[] := by apply Array.ext'; simpa using hva
     have hvc' : vc = #[] := by apply Array.ext'; simpa using hvc
     subst hva'
     subst hvc'
     have hfe' : a.eval f = .func (.func g) #[] #[] := hfe
     have hk := K.fn g
     unfold fnOk at hk
     rw [hfn] at hk
     simp only [Bool.not_true, Bool.false_or] at hk
     cases hfg : P.funcs[g]? with
     | none => rw [hfg] at hk; cases hk
     | some fn =>
       rw [hfg] at hk
       simp only [Bool.and_eq_true, Bool.not_eq_true'] at hk
       have hexec : (execOp a.eval o).run P w = .ok (.enter g (args.map a.eval)) w := by
        unfold execOp
        simp only [ho, resolve, hfe', Deferred.ofValue, Sem.run_bind, Sem.run_pure, Result.andThen_ok, invoke, callFunc, run_program, hfg, hk.1, hk.2, Bool.false_eq_true, if_false, Array.empty_append, Array.append_empty]
       unfold Oper.wp
       rw [hexec, Oper.upon_enter]
       have hF : ∀ b, (F b ∨ ∃ id n, ι id = .blk b n) → b < w.heap.size := by
        rintro b (hb | ⟨id, n, hb⟩)
        ·exact (H.foreign b hb).1
        ·exact H.blk_lt hb
       have himm : ∀ w'' : World, ∀ b, Imm (fun b => F b ∨ ∃ id n, ι id = .blk b n) dead0 w'' b ↔ Imm F ι w'' b := by
        intro w'' b
        unfold Imm
        constructor
        ·rintro ⟨q1, q2, q3⟩
         exact ⟨q1, fun hb => q2 (.inl hb), fun id n hb => q2 (.inr ⟨id, n, hb⟩)⟩
        ·rintro ⟨q1, q2, q3⟩
         refine ⟨q1, ?_, fun id n hb => by cases hb⟩
         rintro (hb | ⟨id, n, hb⟩)
         ·exact q2 hb
         ·exact q3 id n hb
       have hargs := coeArgs_sound (X := X) (ts := argTypes.toList) (argsRep (look γ) a.eval hL args.toList)
       have hargs' := argsRep_pure (I' := Imm (fun b => F b ∨ ∃ id n, ι id = .blk b n) dead0 w) (ι' := dead0) (w' := w) ⟨fun b hb => (himm w b).2 hb, fun _ _ _ _ h => h⟩ h3 hargs
       have := hcall _ w _ hF (hG.imm fun b hb => (himm w b).2 hb) hargs'
       have hav : (args.toList.map a.eval).toArray = args.map a.eval := by apply Array.ext'; simp
       rw [hav] at this
       refine this.mono ?_
       rintro e w' ⟨v, ι', rfl, hrv, Ho, hx⟩
       obtain ⟨ht, hr⟩ := Turn.callOwn H hid Ho hx hrv
       exact ⟨v, rfl, Done.upd1 rfl rfl hr ht⟩
    ·cases hev
   ·rename_i g fst cap σi as ρ r σo hf
    split at hev
    ·rename_i hg
     obtain ⟨hfn, hcf, hcc⟩ := hg
     have hfv := hL f
     rw [hf] at hfv
     obtain ⟨cs, hcs, hfe⟩ := hfv
     rw [repC] at hcs
     obtain ⟨va, vc, rfl, hva, hvc⟩ := hcs
     have hfe' : a.eval f = .func (.func g) va vc := hfe
     have hk := K.fn g
     unfold fnOk at hk
     rw [hfn] at hk
     simp only [Bool.not_true, Bool.false_or] at hk
     cases hfg : P.funcs[g]? with
     | none => rw [hfg] at hk; cases hk
     | some fn =>
       rw [hfg] at hk
       simp only [Bool.and_eq_true, Bool.not_eq_true'] at hk
       have hexec : (execOp a.eval o).run P w = .ok (.enter g (va ++ args.map a.eval ++ vc)) w := by
        unfold execOp
        simp only [ho, resolve, hfe', Deferred.ofValue, Sem.run_bind, Sem.run_pure, Result.andThen_ok, invoke, callFunc, run_program, hfg, hk.1, hk.2, Bool.false_eq_true, if_false]
       unfold Oper.wp
       rw [hexec, Oper.upon_enter]
       have hargs := coeArgs_sound (X := X) (ts := argTypes.toList) (argsRep (look γ) a.eval hL args.toList)
       have hall := argsRep_append (repT_args hcf hva) (argsRep_append hargs (repT_args hcc hvc))
       have := evCallS_sound H hG hid hev hc hall
       have hav : (va.toList ++ (args.toList.map a.eval ++ vc.toList)).toArray = va ++ args.map a.eval ++ vc := by apply Array.ext'; simp
       rw [hav] at this
       refine this.mono ?_
       rintro e w' ⟨v, rfl, hd⟩
       exact ⟨v, rfl, hd⟩
    ·cases hev
   ·cases hev
end
end Go.Sw

namespace Go.Sw
section
variable {P : Program} {X : Ctx} {F : Nat → Prop} {σ : Nat → Option E} {ι : Nat → Loc} {w : World} {I : Nat → Prop}
theorem evPick_sound {c a b : V} {out : Out} (hev : evPick c a b = some out) {vc va vb : Value} (hc : repV I ι w c vc) (ha : repV I ι w a va) (hb : repV I ι w b vb) :
 out.kill = [] ∧ out.upd = [] ∧ ∃ β, vc = .bool β ∧ repV I ι w out.v (if β then va else vb) := by
 unfold evPick at hev
 split at hev
 ·rename_i β
  obtain rfl := repV_bool hc
  split at hev
  ·rename_i x y
   obtain rfl := Option.some.inj hev
   obtain rfl := repV_bool ha
   obtain rfl := repV_bool hb
   refine ⟨rfl, rfl, β, rfl, ?_⟩
   cases β <;> exact repV_bool_mk _
  ·split at hev
   ·obtain rfl := Option.some.inj hev
    exact ⟨rfl, rfl, true, rfl, ha⟩
   ·obtain rfl := Option.some.inj hev
    exact ⟨rfl, rfl, false, rfl, hb⟩
 ·cases hev
theorem evOpA_wp (K : TyOk P X) (H : HoldsE F σ ι w) (hG : Gl P F ι w) {γ : Nat → V} {a : Act} (hs : ∀ t, repV (Imm F ι w) ι w (γ t) (a.tmps.getD t undef)) {id : Nat} (hid : σ id = none) {h : Hint} {o : Oper} {out : Out}
 (hev : evOpA P X (look γ) σ id h o.op = some out) (hc : AllTrue out.c) {Q : Exit → Act → World → Prop} :
 o.wp P a w (fun a' w' => ∃ u, a' = a.put o.dst u ∧ Done F σ ι w out u w') Q := by
 have hL := look_sound (I := Imm F ι w) (ι := ι) (w := w) hs
 have rd : ∀ {s : Sem Value} , (∀ ρ : Operand → Value, ρ = a.eval → execOp ρ o = (do pure (.value (← s)) : Sem Next)) → out.kill = [] ∧ out.upd = [] ∧ (∃ u, s.run P w = .ok u w ∧ repV (Imm F ι w) ι w out.v u) →
  o.wp P a w (fun a' w' => ∃ u, a' = a.put o.dst u ∧ Done F σ ι w out u w') Q := by
  intro s he ⟨h1, h2, u, hr, hu⟩
  refine wp_value (u := u) (w' := w) ?_ ⟨u, rfl, Done.pure H h1 h2 hu⟩
  rw [he _ rfl]
  simp only [Sem.run_bind, hr, Result.andThen_ok, Sem.run_pure]
 have nw : ∀ {s : Sem Value} , (∀ ρ : Operand → Value, ρ = a.eval → execOp ρ o = (do pure (.value (← s)) : Sem Next)) → out.kill = [] ∧ (∃ u w' ι' e, s.run P w = .ok u w' ∧ repV (Imm F ι' w') ι' w' out.v u ∧ out.upd = [(id, e)] ∧ Turn F none' ι w (updE σ id (some e)) ι' w') →
  o.wp P a w (fun a' w' => ∃ u, a' = a.put o.dst u ∧ Done F σ ι w out u w') Q := by
  intro s he ⟨h1, u, w', ι', e, hr, hu, h2, ht⟩
  refine wp_value (u := u) (w' := w') ?_ ⟨u, rfl, Done.upd1 h1 h2 hu ht⟩
  rw [he _ rfl]
  simp only [Sem.run_bind, hr, Result.andThen_ok, Sem.run_pure]
 obtain ⟨dst, op, type, pos, after, guard⟩ := o
 unfold evOpA at hev
 simp only at hev
 cases op <;> first | (cases hev; done) | (try simp only at hev)
 case move x =>
  obtain rfl := Option.some.inj hev
  exact rd (s := pure (a.eval x)) (fun ρ hρ => by subst hρ; rfl) ⟨rfl, rfl, _, rfl, hL x⟩
 case assign x =>
  obtain rfl := Option.some.inj hev
  exact rd (s := pure (a.eval x)) (fun ρ hρ => by subst hρ; rfl) ⟨rfl, rfl, _, rfl, hL x⟩
 case pick c x y =>
  obtain ⟨h1, h2, β, hβ, hr⟩ := evPick_sound hev (hL c) (hL x) (hL y)
  refine wp_value (u := if β then a.eval x else a.eval y) (w' := w) ?_ ⟨_, rfl, Done.pure H h1 h2 hr⟩
  simp only [execOp, hβ, asBool, Sem.run_bind, Sem.run_pure, Result.andThen_ok]
 case alloc t => exact nw (fun ρ hρ => by subst hρ; rfl) (evAlloc_sound K H hid hev)
 case box t x => exact nw (fun ρ hρ => by subst hρ; rfl) (evBox_sound H hid t hev (hL x))
 case build t ps =>
  have hps : (ps.map fun p => (p.1, a.eval p.2)).toList.toArray = ps.map fun (i, x) => (i, a.eval x) := Array.toArray_toList
  unfold evBuildN at hev
  split at hev
  ·rename_i el te l
   cases ho : evBuild X .part t (parts (look γ) ps) with
   | none => rw [ho] at hev; cases hev
   | some o' =>
     rw [ho, Option.bind_some] at hev
     have he := evBuild_sound K ho (partsRep (look γ) a.eval hL ps)
     split at hev
     ·rename_i c hov
      cases hn : nilAt c with
      | none => rw [hn] at hev; cases hev
      | some i =>
        rw [hn, Option.bind_some] at hev
        cases hz : setNil (.vec id te) c i with
        | none => rw [hz] at hev; cases hev
        | some c' =>
          rw [hz] at hev
          obtain rfl := Option.some.inj hev
          obtain ⟨_, _, u, hr, hu⟩ := he
          rw [hps] at hr
          rw [hov] at hu
          have ht := Turn.nilv H hid el te
          refine nw (s := Instr.build t (ps.map fun (i, x) => (i, a.eval x))) (fun ρ hρ => by subst hρ; rfl) ⟨rfl, u, w, _, _, hr, ?_, rfl, ht⟩
          obtain ⟨cs, h1, h2⟩ := hu
          rw [repC] at h1
          refine ⟨cs, ?_, h2⟩
          rw [repC]
          exact setNil_sound ht.stay ht.same (updL_same _ _ _) hz h1
     ·cases hev
  ·have he := evBuild_sound K hev (partsRep (look γ) a.eval hL ps)
   exact rd (s := Instr.build t (ps.map fun (i, x) => (i, a.eval x))) (fun ρ hρ => by subst hρ; rfl) (by rwa [hps] at he)
 case buildSlice t n ps =>
  obtain ⟨h1, u, w', ι', hr, hu, hcase⟩ := evRow_sound K H hid hev (partsRep (look γ) a.eval hL ps)
  refine wp_value (u := u) (w' := w') ?_ ⟨u, rfl, ?_⟩
  ·have hps : (ps.map fun p => (p.1, a.eval p.2)).toList.toArray = ps.map fun (i, x) => (i, a.eval x) := Array.toArray_toList
   have hr' : (Instr.buildSlice t n (ps.map fun (i, x) => (i, a.eval x))).run P w = .ok u w' := by rwa [hps] at hr
   simp only [execOp, Sem.run_bind, hr', Result.andThen_ok, Sem.run_pure]
  ·rcases hcase with ⟨h2, ht⟩ | ⟨e, h2, ht⟩
   ·exact Done.upd0 h1 h2 hu ht
   ·exact Done.upd1 h1 h2 hu ht
 case load t x => exact rd (fun ρ hρ => by subst hρ; rfl) (evLoad_sound K H hev hc (hL x))
 case store t x v =>
  obtain ⟨h0, h1, k, e, w', h2, hr, ht⟩ := evStore_sound K H hev hc (hL x) (hL v)
  have hexec : (execOp a.eval { dst := dst, op := .store t x v, type := type, pos := pos, after := after, guard := guard }).run P w = .ok .skip w' := by
   simp only [execOp, Sem.run_bind, hr, Result.andThen_ok, Sem.run_pure]
  unfold Oper.wp
  rw [hexec, Oper.upon_skip]
  exact ⟨undef, rfl, Done.upd1 h1 h2 (by rw [h0]; trivial) ht⟩
 case nilCheck x =>
  have hx := hL x
  split at hev
  ·rename_i k off hl
   rw [hl] at hx
   obtain rfl := Option.some.inj hev
   obtain ⟨B, n, hB, he⟩ := repV_ptr hx
   refine wp_value (u := a.eval x) (w' := w) ?_ ⟨_, rfl, Done.pure H rfl rfl hx⟩
   simp only [execOp, he, Sem.run_pure]
  ·rename_i t' y hl
   rw [hl] at hx
   obtain rfl := Option.some.inj hev
   have hx' := hx
   obtain ⟨cs, h1, h2⟩ := hx
   rw [repC] at h1
   obtain ⟨b, off, es, rfl, _⟩ := h1
   have he : a.eval x = .pointer (some ⟨b, off, none⟩) := h2
   refine wp_value (u := a.eval x) (w' := w) ?_ ⟨_, rfl, Done.pure H rfl rfl hx'⟩
   simp only [execOp, he, Sem.run_pure]
  ·rename_i k t' i off hl
   rw [hl] at hx
   obtain rfl := Option.some.inj hev
   have hx' := hx
   obtain ⟨cs, h1, h2⟩ := hx
   rw [repC] at h1
   obtain ⟨B, n, hB, rfl⟩ := h1
   have he : a.eval x = .pointer (some ⟨B, i * t'.size + off, none⟩) := h2
   refine wp_value (u := a.eval x) (w' := w) ?_ ⟨_, rfl, Done.pure H rfl rfl hx'⟩
   simp only [execOp, he, Sem.run_pure]
  ·cases hev
 case binOp op t x y yt =>
  cases hb : evBin op (X.ty t) (look γ x) (look γ y) with
  | none =>
    rw [hb, Option.none_or] at hev
    cases he : evEqS X op t (look γ x) (look γ y) with
    | none => rw [he] at hev; cases hev
    | some v =>
      rw [he, Option.map_some, Option.bind_some] at hev
      obtain rfl := Option.some.inj hev
      obtain ⟨u, hr, hu⟩ := evEqS_sound (P := P) K he (hL x) (hL y) x y
      exact rd (s := do eqGuard op t x y (a.eval x) (a.eval y); binOp op t (a.eval x) (a.eval y)) (fun ρ hρ => by subst hρ; rfl) ⟨rfl, rfl, u, hr, hu⟩
  | some r =>
    obtain ⟨v, c⟩ := r
    rw [hb, Option.some_or, Option.bind_some] at hev
    obtain rfl := Option.some.inj hev
    obtain ⟨u, hr, hu⟩ := evBin_sound K hb hc (hL x) (hL y) x y
    exact rd (s := do eqGuard op t x y (a.eval x) (a.eval y); binOp op t (a.eval x) (a.eval y)) (fun ρ hρ => by subst hρ; rfl) ⟨rfl, rfl, u, hr, hu⟩
 case unOp op t x =>
  cases hb : evUn op (look γ x) with
  | none => rw [hb] at hev; cases hev
  | some v =>
    rw [hb, Option.bind_some] at hev
    obtain rfl := Option.some.inj hev
    obtain ⟨u, hr, hu⟩ := evUn_sound (P := P) hb (hL x)
    exact rd (fun ρ hρ => by subst hρ; rfl) ⟨rfl, rfl, u, hr, hu⟩
 case convert s d x => exact rd (fun ρ hρ => by subst hρ; rfl) (evConvert_sound K hev (hL x))
 case makeSlice t l c => exact nw (fun ρ hρ => by subst hρ; rfl) (evMake_sound K H hid hev hc (hL l) (hL c))
 case slice t x lo hi mx =>
  cases h1 : evSlice X t (look γ x) (lo.map (look γ)) (hi.map (look γ)) (mx.map (look γ)) with
  | some o1 =>
    rw [h1, Option.some_or] at hev
    obtain rfl := Option.some.inj hev
    exact rd (fun ρ hρ => by subst hρ; rfl) (evSlice_sound K h1 hc (hL x) (optRep _ _ hL lo) (optRep _ _ hL hi) (optRep _ _ hL mx))
  | none =>
    rw [h1, Option.none_or] at hev
    exact rd (fun ρ hρ => by subst hρ; rfl) (evSliceV_sound K H hev hc (hL x) (optRep _ _ hL lo) (optRep _ _ hL hi) (optRep _ _ hL mx))
 case fieldAddr s x f => exact rd (fun ρ hρ => by subst hρ; rfl) (evFieldAddr_sound K hev (hL x))
 case field s x f => exact rd (fun ρ hρ => by subst hρ; rfl) (evField_sound K hev (hL x))
 case indexAddr t x i => exact rd (fun ρ hρ => by subst hρ; rfl) (evIndexAddr_sound K H hev hc (hL x) (hL i))
 case index t x i => exact rd (fun ρ hρ => by subst hρ; rfl) (evIndex_sound K hev hc (hL x) (hL i))
 case extract x i => exact rd (fun ρ hρ => by subst hρ; rfl) (evExtract_sound hev (hL x))
 case call c => exact evCall_wp K H hG hs hid rfl hev hc
 case makeFunc fn fst cap =>
  cases fn <;> first | (cases hev; done) | skip
  case func f =>
   simp only at hev
   split at hev
   ·rename_i hg
    obtain rfl := Option.some.inj hev
    refine rd (s := Instr.makeFunc (.func f) (fst.map a.eval) (cap.map a.eval)) (fun ρ hρ => by subst hρ; rfl) ⟨rfl, rfl, _, rfl, ?_⟩
    refine ⟨[.func (.func f) (fst.map a.eval) (cap.map a.eval)], ?_, rfl⟩
    rw [repC]
    exact ⟨_, _, rfl, by simpa using ofL_args hg.1 (argsRep (look γ) a.eval hL fst.toList), by simpa using ofL_args hg.2 (argsRep (look γ) a.eval hL cap.toList)⟩
   ·cases hev
def lowL (ks : List Nat) : Bool := ks.all low
theorem lowL_same {ks : List Nat} (h : lowL ks = true) {ι ι' : Nat → Loc} {w w' : World} (hs : Same (killP ks) ι ι' w w') : Same low ι ι' w w' := by
 refine hs.weak fun id hid => ?_
 unfold killP
 rw [List.contains_eq_any_beq]
 cases hb : ks.any fun x => id == x with
 | false => rfl
 | true =>
   rw [List.any_eq_true] at hb
   obtain ⟨x, hx, he⟩ := hb
   have := List.all_eq_true.1 h x hx
   rw [beq_iff_eq] at he
   subst he
   rw [hid] at this
   cases this
structure St where
 Γ : List (Nat × V)
 σ : List (Nat × E)
def updV (γ : Nat → V) (d : Option Nat) (v : V) : Nat → V := match d with
 | none => γ
 | some d => fun t => if d = t then v else γ t
theorem Holds.done {n : Nat} {γ : Nat → V} {a : Act} (H : Holds F n γ σ ι a w) {out : Out} {u : Value} {w' : World} (hd : Done F σ ι w out u w') {dst : Option Nat} (hdst : ∀ d, dst = some d → d < n) :
 ∃ ι', Holds F n (updV (fun t => (γ t).kill (killP out.kill)) dst out.v) (after σ out) ι' (a.put dst u) w' ∧ Ext ι w ι' w' ∧ Same (killP out.kill) ι ι' w w' := by
 obtain ⟨ι', hr, ht⟩ := hd
 refine ⟨ι', ⟨?_, ?_, fun t => ?_, ht.mem.ents, ht.mem.dead, ht.mem.inj, ht.mem.foreign⟩, ht.ext, ht.same⟩
 ·cases dst <;> exact H.defers
 ·cases dst with
  | none => exact H.size
  | some d => simp [Act.put, H.size]
 ·have old := repV_kill ht.stay ht.same (H.slots t)
  cases dst with
  | none => exact old
  | some d =>
    have hlt : d < a.tmps.size := by rw [H.size]; exact hdst d rfl
    simp only [updV, Act.put]
    split
    ·rename_i h
     subst h
     have : (a.tmps.setIfInBounds d u).getD d undef = u := by simp [hlt]
     rw [this]
     exact hr
    ·rename_i h
     have : (a.tmps.setIfInBounds d u).getD t undef = a.tmps.getD t undef := by simp [Array.getElem?_setIfInBounds_ne h]
     rw [this]
     exact old
end
end Go.Sw

namespace Go.Sw
def rowOf (σ : Nat → Option E) (t : T) : V → Option (List t.D)
 | .d u x => T.cast (.sl t) x
 | .nil => some []
 | .vec k u => if u = t then (vecOf σ k t).map (·.2) else none
 | .sub k u off len => if u = t then (vecOf σ k t).map fun l => List.take len (List.drop off l.2) else none
 | _ => none
def byteL (s : ByteArray) : List Int := s.data.toList.map fun b => (b.toNat : Int)
def bytesOf (l : List Int) : ByteArray := ⟨(l.map fun n => UInt8.ofNat n.toNat).toArray⟩
def asPart (t : T) (v : V) : V := match toD t v with
 | some x => .d t x
 | none => v
def fillV (fs : T) : V → List (Nat × V) → Option V
 | c, [] => some c
 | c, (i, v) :: r => (T.foff fs i).bind fun p =>
   if okStore (asPart p.2 v) = true ∧ (asPart p.2 v).csize = p.2.size ∧ ((asPart p.2 v).isAgg = true ∨ (asPart p.2 v).csize = 1) then (V.wrW (asPart p.2 v) c p.1).bind fun c' => fillV fs c' r else none
def fillP (fs : T) : V → List (Nat × V) → Option V
 | c, [] => some c
 | c, (i, v) :: r => (T.foff fs i).bind fun p =>
   if okStore v = true ∧ v.csize = p.2.size ∧ (v.isAgg = true ∨ v.csize = 1) then (V.wrW v c p.1).bind fun c' => fillP fs c' r else none
def wholeD (fs : T) : V → Option fs.D
 | .vcons (.d (.st gs) x) .vnil => T.cast (a := gs) fs x
 | _ => none
def evBuildU (X : Ctx) (h : Hint) (t : TypeId) (ps : List (Nat × V)) : Option Out :=
 match X.ty t with
 | some (.st fs) =>
   (match h with
    | .part => (buildP fs 0 []).bind fun z => (fillP fs z ps).bind fun c => Out.val (.agg c) []
    | _ => (fillV fs (.vcons (.d (.st fs) (T.st fs).dflt) .vnil) ps).bind fun c => (wholeD fs c).bind fun x => Out.val (.d (.st fs) x) [])
 | _ => none
def bitI (op : BinOp) (k : IntKind) (a b : Int) : Option Int :=
 match op with
 | .and => some (k.wrap (BitVec.toNat (BitVec.ofInt k.bits a &&& BitVec.ofInt k.bits b)))
 | .or => some (k.wrap (BitVec.toNat (BitVec.ofInt k.bits a ||| BitVec.ofInt k.bits b)))
 | .xor => some (k.wrap (BitVec.toNat (BitVec.ofInt k.bits a ^^^ BitVec.ofInt k.bits b)))
 | .andNot => some (k.wrap (BitVec.toNat (BitVec.ofInt k.bits a &&& ~~~BitVec.ofInt k.bits b)))
 | _ => none
def isPtr : V → Bool
 | .ptr .. | .pt .. | .elt .. => true
 | _ => false
def nilEq (t : Option T) (x y : V) (cst sz : Bool) : Option Bool :=
 match x, y with
 | .d (.con 0) _, .d (.con 0) _ => if t = some (.con 0) then some true else none
 | .d (.con 1) _, .d (.con 1) _ => if t = some (.con 1) ∧ cst = true then some true else none
 | .ptr k o, .ptr k' o' => if t = some (.con 0) ∧ k = k' ∧ o = o' ∧ sz = true then some true else none
 | .d (.con 0) _, y => if t = some (.con 0) ∧ isPtr y = true then some false else none
 | x, .d (.con 0) _ => if t = some (.con 0) ∧ isPtr x = true then some false else none
 | _, _ => none
def isConst : Operand → Bool
 | .const _ => true
 | _ => false
def ptrSz (P : Program) (t : TypeId) : Bool := match P.underlying t with | some (.pointer e) => (P.info? e).isSome | _ => false
def evBinB (P : Program) (X : Ctx) (op : BinOp) (t : TypeId) (x y : V) (cst : Bool) : Option Out :=
 match op, x, y with
 | .shl, .d (.int k) a, .d (.int _) b => Out.val (.d (.int k) (k.wrap (a * 2 ^ (min b.toNat k.bits)))) [dc (0 ≤ b)]
 | .shr, .d (.int k) a, .d (.int _) b => Out.val (.d (.int k) (a.fdiv (2 ^ (min b.toNat k.bits)))) [dc (0 ≤ b)]
 | op, .d (.int k) a, .d (.int k') b => if k = k' then (bitI op k a b).bind fun n => Out.val (.d (.int k) n) [] else none
 | .eql, x, y => (nilEq (X.ty t) x y cst (ptrSz P t)).bind fun b => Out.val (.d .bool b) []
 | .neq, x, y => (nilEq (X.ty t) x y cst (ptrSz P t)).bind fun b => Out.val (.d .bool (!b)) []
 | _, _, _ => none
def isU8 (P : Program) (e : TypeId) : Bool := match P.underlying e with | some (.int .u8) => true | _ => false
def evConvB (P : Program) (X : Ctx) (σ : Nat → Option E) (s d : TypeId) (x : V) : Option Out :=
 match P.underlying s, P.underlying d, x with
 | some (.pointer t), some .unsafePointer, .ptr k off => (match σ k with
   | some (.box bt c) => if off < c.csize ∧ ((P.info? t).any fun i => i.size != 0) = true then Out.val (.ptr k off) [] else none
   | _ => none)
 | some .unsafePointer, some (.pointer u), .ptr k off => (match σ k with
   | some (.box bt c) => if liesAt P P.depth bt (c.csize / P.cellsOf bt) off u 1 = true ∧ (P.info? u).isSome = true then Out.val (.ptr k off) [] else none
   | _ => none)
 | some (.slice e), some .string, x => if isU8 P e = true then (rowOf σ (.int .u8) x).bind fun l => Out.val (.d .str (bytesOf l)) [] else none
 | some .string, some (.slice e), .d .str b => if isU8 P e = true ∧ (X.ty d).isSome = true then Out.val (.d (.sl (.int .u8)) (byteL b)) [dc ((b : ByteArray).size ≤ 1073741824)] else none
 | _, _, _ => none
def evAllocB (X : Ctx) (h : Hint) (id : Nat) (t : TypeId) : Option Out :=
 match h, X.ty t with
 | .own, some (.st (.cons te ts)) => if X.ar t = true then some ⟨.elt id te 0 0, [], [(id, .vec t te (List.replicate ((T.st (.cons te ts)).size / te.size) te.dflt))], []⟩ else none
 | _, _ => none
def evSliceB (X : Ctx) (σ : Nat → Option E) (t : TypeId) (x : V) (lo hi mx : Option V) : Option Out :=
 match x, X.ty t, intOf lo, intOf hi, mx with
 | .elt k te 0 0, some (.st (.cons te' ts)), some l, some h, none =>
   if X.ar t = true ∧ te' = te then
    (vecOf σ k te).bind fun r => if r.1 = t ∧ r.2.length * te.size = (T.cons te' ts).size then
      Out.val (.sub k te (evCut (r.2.length : Int) l h none).1.toNat ((evCut (r.2.length : Int) l h none).2.1.toNat - (evCut (r.2.length : Int) l h none).1.toNat)) (dc (r.2.length ≤ 1073741824) :: (evCut (r.2.length : Int) l h none).2.2) else none
   else none
 | _, _, _, _, _ => none
def tabAt (P : Program) (g : Nat) : Option (List Value) := (tabs.find? fun p => P.globalNamed p.1 == some g).map (·.2)
def evIndexB (P : Program) (X : Ctx) (σ : Nat → Option E) (t : TypeId) (x : Operand) (xv i : V) : Option Out :=
 match i with
 | .d (.int _) n =>
   (match x with
    | .global g => (match tabAt P g, X.ty t with
      | some cs, some (.st fs) => if X.ar t = true then (T.foff fs n.toNat).bind fun p =>
         (match cs[p.1]? with
          | some (.int k m) => if k.min ≤ m ∧ m ≤ k.max then Out.val (.pt (.int k) m) [dc (0 ≤ n)] else none
          | _ => none) else none
      | _, _ => none)
    | _ => (match xv, X.ty t with
      | .elt k te 0 0, some (.st fs) => if X.ar t = true then (T.foff fs n.toNat).bind fun p => if p.1 = n.toNat * te.size then Out.val (.elt k te n.toNat 0) [dc (0 ≤ n)] else none else none
      | _, _ => none))
 | _ => none
def evAppM (X : Ctx) (σ : Nat → Option E) (h : Hint) (id : Nat) (t : TypeId) (te : T) (s : V) (m : List te.D) : Option Out :=
 match s with
 | .nil => (match h with
   | .own => some ⟨.vec id te, [], [(id, .vec (X.el t) te m)], cLen (List.length m)⟩
   | _ => none)
 | .vec k te' => if te' = te then (vecOf σ k te).bind fun l => if l.1 = X.el t then some ⟨.vec k te, [k], [(k, .vec l.1 te (l.2 ++ m))], cLen (List.length (l.2 ++ m))⟩ else none else none
 | _ => none
def evAppB (X : Ctx) (σ : Nat → Option E) (h : Hint) (id : Nat) (t t' : TypeId) (s x : V) : Option Out :=
 match X.ty t with
 | some (.sl te) =>
   let m? : Option (List te.D) := match x with
    | .d .str b => if X.ty t' = some .str then T.cast (a := .sl (.int .u8)) (.sl te) (byteL b) else none
    | x => if t = t' then rowOf σ te x else none
   m?.bind fun m => evAppM X σ h id t te s m
 | _ => none
def byteFn (name : String) (s : ByteArray) (b : Int) : Option Out :=
 if name = "internal/bytealg.IndexByteString" then Out.val (.d (.int .i64) (Lib.indexByte s.data.toList b.toNat.toUInt8)) []
 else if name = "internal/bytealg.CountString" then Out.val (.d (.int .i64) ((Lib.countByte s.data.toList b.toNat.toUInt8 : Nat) : Int)) []
 else none
def evCallB (P : Program) (X : Ctx) (L : Operand → V) (σ : Nat → Option E) (id : Nat) (h : Hint) (c : Call) : Option Out :=
 match c.callee with
 | .builtin .append => (match c.args.toList, c.argTypes.toList with | [s, x], [t, t'] => evAppB X σ h id t t' (L s) (L x) | _, _ => none)
 | .builtin .cap => (match c.args.toList, c.argTypes.toList with | [x], [t] => (match L x, X.ty t with | .nil, some (.sl _) => Out.val (.d (.int .i64) 0) [] | _, _ => none) | _, _ => none)
 | .builtin .unsafeSliceData => (match c.args.toList with | [x] => (match L x with | .vec k te => (vecOf σ k te).bind fun l => Out.val (.elt k te 0 0) [dc (0 < l.2.length)] | _ => none) | _ => none)
 | .builtin .unsafeString => (match c.args.toList, c.argTypes.toList with
   | [x, y], [pt, it] => (match L x, L y, P.underlying pt with
     | .elt k (.int .u8) 0 0, .d (.int .i64) n, some (.pointer u) => (vecOf σ k (.int .u8)).bind fun l =>
       if l.1 = u ∧ P.cellsOf u = 1 then some ⟨.d .str (bytesOf (List.take n.toNat l.2)), [k], [(k, .vec l.1 (.int .u8) [])], [dc (0 < n), dc (n ≤ l.2.length)]⟩ else none
     | _, _, _ => none)
   | _, _ => none)
 | .value f => (match L f with
   | .fn g .vnil .vnil => (match P.funcs[g]?, c.args.toList with
     | some fn, [x] => if fn.body.isNone = true ∧ fn.name = "internal/abi.NoEscape" ∧ fn.origin = "" then (match L x with | .ptr k off => Out.val (.ptr k off) [] | _ => none) else none
     | some fn, [x, y] => (match L x, L y with
       | .d .str s, .d (.int .u8) b => if fn.body.isNone = true ∧ fn.origin = "" then byteFn fn.name s b else none
       | _, _ => none)
     | _, _ => none)
   | _ => none)
 | _ => none
def evOpB (P : Program) (X : Ctx) (L : Operand → V) (σ : Nat → Option E) (id : Nat) (h : Hint) (o : Op) : Option Out :=
 match o with
 | .build t ps => evBuildU X h t (parts L ps)
 | .binOp op t x y _ => evBinB P X op t (L x) (L y) (isConst x || isConst y)
 | .convert s d x => evConvB P X σ s d (L x)
 | .alloc t => evAllocB X h id t
 | .slice t x lo hi mx => evSliceB X σ t (L x) (lo.map L) (hi.map L) (mx.map L)
 | .indexAddr t x i => evIndexB P X σ t x (L x) (L i)
 | .call c => evCallB P X L σ id h c
 | _ => none
def firstB : Op → Hint → Bool
 | .alloc _, .own => true
 | _, _ => false
def evOp (P : Program) (X : Ctx) (L : Operand → V) (σ : Nat → Option E) (id : Nat) (h : Hint) (o : Op) : Option Out :=
 match firstB o h with
 | true => evOpB P X L σ id h o
 | false => match evOpA P X L σ id h o with
   | some r => some r
   | none => evOpB P X L σ id h o
end Go.Sw

namespace Go.Sw
section
variable {P : Program} {X : Ctx} {F : Nat → Prop} {σ : Nat → Option E} {ι : Nat → Loc} {w : World} {I : Nat → Prop}
theorem rowOf_sound (H : HoldsE F σ ι w) {t : T} {x : V} {m : List t.D} (h : rowOf σ t x = some m) {v : Value} (hv : repV (Imm F ι w) ι w x v) :
 ∃ base cap es, v = .slice base m.length cap ∧ repL (rep (Imm F ι w) w t) m es ∧ (m = [] ∨ ∃ b o, base = some ⟨b, o, none⟩ ∧ At w b o es) ∧ (m.length : Int) ≤ 9223372036854775807 := by
 unfold rowOf at h
 split at h
 ·rename_i t' y
  obtain ⟨e, rfl⟩ := T.cast_some h
  subst e
  obtain ⟨base, cap, rfl, h1, h2, h3⟩ := repV_sl hv
  by_cases hm : (y : List t.D) = []
  ·exact ⟨base, cap, [], rfl, by rw [show (y : List t.D) = [] from hm]; rfl, .inl hm, Int.le_trans (Int.ofNat_le.2 h1) h2⟩
  ·obtain ⟨b, o, es, rfl, hI, hA, hL⟩ := h3 hm
   exact ⟨_, cap, es, rfl, hL, .inr ⟨b, o, rfl, hA⟩, Int.le_trans (Int.ofNat_le.2 h1) h2⟩
 ·obtain rfl := Option.some.inj h
  obtain rfl := repV_nil hv
  exact ⟨none, 0, [], rfl, rfl, .inl rfl, by simp⟩
 ·rename_i k u
  split at h
  ·rename_i hu
   subst hu
   cases hl : vecOf σ k u with
   | none => rw [hl] at h; cases h
   | some p =>
     obtain ⟨e, l⟩ := p
     rw [hl] at h
     obtain rfl := Option.some.inj h
     rcases vec_slice H hl hv with ⟨_, rfl, rfl⟩ | ⟨B, cap, hk, rfl, g1, g2, _⟩
     ·exact ⟨none, 0, [], rfl, rfl, .inl rfl, by simp⟩
     ·obtain ⟨_, arr, es, hh, _, hA, hr⟩ := H.vec (vecOf_some hl) hk
      exact ⟨_, cap, es, rfl, hr, .inr ⟨B, 0, rfl, hA⟩, by show (l.length : Int) ≤ _; omega⟩
  ·cases h
 ·rename_i k u off len
  split at h
  ·rename_i hu
   subst hu
   cases hl : vecOf σ k u with
   | none => rw [hl] at h; cases h
   | some p =>
     obtain ⟨e, l⟩ := p
     rw [hl] at h
     obtain rfl := Option.some.inj h
     obtain ⟨cs, h1, h2⟩ := hv
     rw [repC] at h1
     obtain ⟨B, n, base, cap, hk, rfl, hb, g1, g2, hle⟩ := h1
     obtain ⟨hn, arr, es, hh, hsz, hA, hr⟩ := H.vec (vecOf_some hl) hk
     subst hn
     obtain ⟨c1, c2, c3, rfl, hc1, hr2⟩ := repL_cut (fun _ _ => rep_length) hr off (off + len) (by omega) hle
     have e1 : (l.take (off + len)).drop off = (l.drop off).take len := by rw [List.drop_take]; congr 1; omega
     rw [e1] at hr2
     have hlen : ((l.drop off).take len).length = len := by simp; omega
     refine ⟨base, cap, c2, by rw [hlen]; exact h2, hr2, ?_, by rw [hlen]; omega⟩
     by_cases h0 : 0 < len
     ·refine .inr ⟨B, off * u.size, hb h0, ?_⟩
      have := At.of_split hA
      rw [hc1, Nat.zero_add] at this
      exact this
     ·left
      exact List.eq_nil_of_length_eq_zero (by rw [hlen]; omega)
  ·cases h
 ·cases h
theorem run_append_moreB (K : TyOk P X) {t t' ty : TypeId} {d' : TypeDesc} (hu' : P.underlying t' = some d') (hd' : d' = .string ∨ ∃ e, d' = .slice e) {te : T} (ht : X.ty t = some (.sl te)) (w : World) (base : Option Addr) (n cap : Nat) (olds : List Value) (ho : olds.length = n * te.size) (hb : n = 0 ∨ ∃ b o, base = some ⟨b, o, none⟩ ∧ At w b o olds)
 (vx : Value) (m : Nat) (news : List Value) (hn : news.length = m * te.size) (hlen : Builtin.lenOf vx = pure m) (hs : ∀ w' : World, w'.heap = w.heap → (Builtin.firstCells te.size m vx).run P w' = .ok news.toArray w')
 (hgrow : cap < n + m) (hbig : n + m ≤ 1073741824) :
 ∃ (c : Nat) (rest : List Value), n + m ≤ c ∧ (c : Int) ≤ 9223372036854775807 ∧ rest.length = (c - (n + m)) * te.size ∧
  (Builtin.append_ #[t, t'] ty #[.slice base n cap, vx]).run P w =
    .ok (.slice (some ⟨w.heap.size, 0, none⟩) (n + m) c) (w.drew.alloc (.cells (olds ++ news ++ rest).toArray (X.el t))) := by
 obtain ⟨hu, hte, hsz⟩ := K.slice ht
 obtain ⟨i, hi, hsize, hbytes, z, hz, hzz⟩ := K.info hte
 have hzc : z.cells = te.zc.toArray := by rw [hzz]; exact mkVal_zc_cells K ⟨_, hte⟩
 have hge := grownCap_ge w (n + m) cap (X.el t)
 have hle := grownCap_le_maxLen w (n + m) cap (X.el t) (by unfold maxLen; omega)
 have h9 : maxLen = 9223372036854775807 := by decide
 have hle' : grownCap w (n + m) cap (X.el t) ≤ 9223372036854775807 := by omega
 refine ⟨grownCap w (n + m) cap (X.el t), (Builtin.zeroCells z.cells (grownCap w (n + m) cap (X.el t) - (n + m))).toList, hge, by omega, ?_, ?_⟩
 ·simp [Builtin.zeroCells, hzc, zc_length]
 ·have hno : ¬ (n + m ≤ cap) := by omega
  have h63 : ¬ (9223372036854775807 < ((n : Int) + (m : Int))) := by omega
  have hfit : Builtin.nextslicecap (n + m) cap * i.bytes ≤ 281474976710656 := growslice_fits (by omega) (by
   have : (n + m) * i.bytes ≤ 1073741824 * 65536 := Nat.mul_le_mul hbig hbytes
   omega)
  have h48 : ¬ (281474976710656 < Builtin.nextslicecap (n + m) cap * i.bytes) := by omega
  have ho' := run_firstCells (P := P) w.drew te.size base n cap olds ho (by rcases hb with h | ⟨b, o, h1, h2⟩; exact .inl h; exact .inr ⟨b, o, h1, h2⟩)
  have hn' := hs w.drew rfl
  have hlen' : (Builtin.lenOf vx).run P w = .ok m w := by rw [hlen]; rfl
  have hund := run_underlying (P := P) hu
  have hlenS : Builtin.lenOf (.slice base n cap) = pure n := rfl
  rcases hd' with rfl | ⟨e', rfl⟩ <;> simp [Builtin.append_, run_underlying hu, run_underlying hu', sizeOf, typeInfo, zeroValue, hi, hz, hsize, hlen, hno, h63, h48, Question.forced, ho', hn', newRow, grownCap]
  all_goals (congr 2; apply Array.ext'; simp [List.append_assoc])
theorem evAppM_sound (K : TyOk P X) (H : HoldsE F σ ι w) {h : Hint} {id : Nat} (hid : σ id = none) {t t' ty : TypeId} {te : T} (ht : X.ty t = some (.sl te)) {s : V} {m : List te.D} {o : Out} (hev : evAppM X σ h id t te s m = some o) (hc : AllTrue o.c) {vs vx : Value}
 (hs : repV (Imm F ι w) ι w s vs) {d' : TypeDesc} (hu' : P.underlying t' = some d') (hd' : d' = .string ∨ ∃ e, d' = .slice e) {news : List Value} (hnews : repL (rep (Imm F ι w) w te) m news) (hlen : Builtin.lenOf vx = pure m.length) (hcells : ∀ w' : World, w'.heap = w.heap → (Builtin.firstCells te.size m.length vx).run P w' = .ok news.toArray w') :
 ∃ u w', (Builtin.append_ #[t, t'] ty #[vs, vx]).run P w = .ok u w' ∧ Done F σ ι w o u w' := by
 unfold evAppM at hev
 obtain ⟨hu, hte, hsz⟩ := K.slice ht
 have hnl : news.length = m.length * te.size := repL_length (fun _ _ => rep_length) hnews
 have runNil : m = [] → (Builtin.append_ #[t, t'] ty #[.slice none 0 0, vx]).run P w = .ok (.slice none 0 0) w := by
  intro h0
  subst h0
  obtain ⟨i, hi, hsize, _⟩ := K.info hte
  have hn0 : news = [] := List.eq_nil_of_length_eq_zero (by rw [hnl]; simp)
  have hf := hcells w rfl
  rw [hn0] at hf
  simp only [List.length_nil] at hf hlen
  rcases hd' with rfl | ⟨e', rfl⟩ <;> simp [Builtin.append_, run_underlying hu, run_underlying hu', sizeOf, typeInfo, hi, hsize, hlen, hf]
 split at hev
 ·obtain rfl := repV_nil hs
  split at hev
  ·-- own
   obtain rfl := Option.some.inj hev
   have hbig : m.length ≤ 1073741824 := hc.1
   by_cases h0 : m = []
   ·refine ⟨_, _, runNil h0, Done.upd1 (ι' := updL ι id .nilv) rfl rfl ⟨[.slice none 0 0], ?_, rfl⟩ ?_⟩
    ·rw [repC]; exact .inl ⟨updL_same _ _ _, rfl⟩
    ·subst h0; exact Turn.nilv H hid _ _
   ·have hpos : 0 < m.length := List.length_pos_iff.2 h0
    obtain ⟨c, rest, h1, h2, h3, h4⟩ := run_append_moreB (ty := ty) K hu' hd' ht w none 0 0 [] (by simp) (.inl rfl) vx m.length news hnl hlen hcells (by omega) (by omega)
    simp only [Nat.zero_add, List.nil_append] at h1 h3 h4
    have hd := Turn.drew H
    have hn := Turn.named hd.mem hid (.cells (news ++ rest).toArray (X.el t)) m.length (.vec (X.el t) te m)
     (fun hst hsm => ⟨rfl, _, news, heap_alloc_new' _ _, hsz, (At.of_new w.drew (news ++ rest) (X.el t)).left, repL_mono (fun _ _ hr => rep_stay hst (rep_stay hd.stay hr)) hnews⟩)
    refine ⟨_, _, h4, Done.upd1 rfl rfl ⟨[.slice (some ⟨w.heap.size, 0, none⟩) m.length c], ?_, rfl⟩ (hd.trans' hn)⟩
    rw [repC]
    refine .inr ⟨w.heap.size, m.length, c, updL_same _ _ _, rfl, h1, h2, ?_⟩
    rw [show blkSize _ w.heap.size = _ from blkSize_eq (heap_alloc_new' w.drew _)]
    simp only [List.size_toArray, List.length_append, hnl, h3, ← Nat.add_mul]
    congr 1
    omega
  ·cases hev
 ·rename_i k te'
  split at hev
  ·rename_i he
   subst he
   cases hv : vecOf σ k te' with
   | none => rw [hv] at hev; cases hev
   | some p =>
     obtain ⟨e, l⟩ := p
     rw [hv, Option.bind_some] at hev
     split at hev
     ·rename_i hel
      simp only at hel
      subst hel
      obtain rfl := Option.some.inj hev
      have hbig : (l ++ m).length ≤ 1073741824 := hc.1
      rw [List.length_append] at hbig
      have hσk := vecOf_some hv
      have hp := killP_one k
      have grow : ∀ (base : Option Addr) (cap : Nat) (olds : List Value), olds.length = l.length * te'.size → (l.length = 0 ∨ ∃ b o, base = some ⟨b, o, none⟩ ∧ At w b o olds) → repL (rep (Imm F ι w) w te') l olds →
       cap < l.length + m.length → ∃ u w', (Builtin.append_ #[t, t'] ty #[.slice base l.length cap, vx]).run P w = .ok u w' ∧
        Done F σ ι w ⟨.vec k te', [k], [(k, .vec (X.el t) te' (l ++ m))], cLen (List.length (l ++ m))⟩ u w' := by
       intro base cap olds hol hba hro hcap
       obtain ⟨c, rest, h1, h2, h3, h4⟩ := run_append_moreB (ty := ty) K hu' hd' ht w base l.length cap olds hol hba vx m.length news hnl hlen hcells hcap hbig
       have hdr := Turn.drop H k
       have hd := Turn.drew hdr.mem
       have hn := Turn.named hd.mem (updE_same _ _ _) (.cells (olds ++ news ++ rest).toArray (X.el t)) (l ++ m).length (.vec (X.el t) te' (l ++ m))
        (fun hst hsm => ⟨rfl, _, olds ++ news, heap_alloc_new' _ _, hsz, (At.of_new w.drew (olds ++ news ++ rest) (X.el t)).left,
          repL_mono (fun _ _ hr => rep_stay hst (rep_stay hd.stay (rep_stay hdr.stay hr))) (repL_append hro hnews)⟩)
       have hall := hdr.trans_none (hd.trans' hn)
       rw [updE_updE, updL_updL] at hall
       refine ⟨_, _, h4, updL ι k (.blk w.heap.size (l ++ m).length), ⟨[.slice (some ⟨w.heap.size, 0, none⟩) (l.length + m.length) c], ?_, rfl⟩, ?_⟩
       ·rw [repC]
        refine .inr ⟨w.heap.size, (l ++ m).length, c, updL_same _ _ _, by rw [List.length_append], by rw [List.length_append]; exact h1, h2, ?_⟩
        rw [show blkSize _ w.heap.size = _ from blkSize_eq (heap_alloc_new' w.drew _)]
        simp only [List.size_toArray, List.length_append, hnl, h3, hol, ← Nat.add_mul]
        congr 1
        omega
       ·unfold after
        rw [hp]
        exact hall
      rcases vec_slice H hv hs with ⟨hk, rfl, rfl⟩ | ⟨B, cap, hk, rfl, hle, hcap, hbs⟩
      ·by_cases h0 : m = []
       ·refine ⟨_, _, runNil h0, ι, ⟨[.slice none 0 0], ?_, rfl⟩, ?_⟩
        ·rw [repC]; exact .inl ⟨hk, rfl⟩
        ·subst h0
         have hkl := Turn.kill H (killP [k])
         have : after σ ⟨.vec k te', [k], [(k, .vec (X.el t) te' ([] ++ []))], cLen (List.length (([] : List te'.D) ++ []))⟩ = killE (killP [k]) σ := by
          unfold after updAll updAll
          funext id'
          unfold updE
          split
          ·rename_i e1; subst e1; simp [killE, hσk, E.kill]
          ·rfl
         rw [this]
         exact hkl
       ·have hpos : 0 < m.length := List.length_pos_iff.2 h0
        exact grow none 0 [] (by simp) (.inl rfl) rfl (by simp; omega)
      ·obtain ⟨hn, arr, es, hh, _, hA, hr⟩ := H.vec hσk hk
       have hel : es.length = l.length * te'.size := repL_length (fun _ _ => rep_length) hr
       by_cases hroom : l.length + m.length ≤ cap
       ·rw [blkSize_eq hh] at hbs
        have htake : arr.toList.take es.length = es := by
         apply List.ext_getElem?
         intro j
         rw [List.getElem?_take]
         split
         ·rename_i hj
          have := hA j _ (List.getElem?_eq_getElem hj)
          simp only [World.cell?, hh, Nat.zero_add] at this
          rw [List.getElem?_eq_getElem hj]
          simpa using this
         ·rename_i hj
          rw [List.getElem?_eq_none (by omega)]
        obtain ⟨i, hi, hsize, _⟩ := K.info hte
        have hfit : es.length + news.length ≤ arr.size := by
         rw [hel, hnl, ← hbs, ← Nat.add_mul]
         exact Nat.mul_le_mul_right _ hroom
        have hf := hcells w rfl
        have hst := run_storeCells_at P B (l.length * te'.size) (X.el t) news 0 arr w hh (by omega) (by
         intro c hcm
         have : ∀ {l : List te'.D} {cs : List Value}, repL (rep (Imm F ι w) w te') l cs → ∀ c ∈ cs, one c := by
          intro l
          induction l with
          | nil => intro cs h c hc; rw [repL] at h; subst h; cases hc
          | cons y ys ih =>
            intro cs h c hc
            obtain ⟨c1, c2, rfl, h1, h2⟩ := h
            rcases List.mem_append.1 hc with hc | hc
            ·exact rep_one h1 c hc
            ·exact ih h2 c hc
         have h1 := this hnews c hcm
         cases c <;> first | rfl | exact h1.elim)
        simp only [Nat.add_zero] at hst
        rw [← hel, htake] at hst
        have hrun : (Builtin.append_ #[t, t'] ty #[.slice (some ⟨B, 0, none⟩) l.length cap, vx]).run P w =
         .ok (.slice (some ⟨B, 0, none⟩) (l.length + m.length) cap) (w.setRow B (es ++ news ++ arr.toList.drop (es.length + news.length)).toArray) := by
         have hadd : (⟨B, 0, none⟩ : Addr).add (l.length * te'.size) = ⟨B, es.length, none⟩ := by rw [addr_add, hel, Nat.zero_add]
         rcases hd' with rfl | ⟨e', rfl⟩ <;> simp [Builtin.append_, run_underlying hu, run_underlying hu', sizeOf, typeInfo, hi, hsize, hlen, hroom, hf, hadd, hst]
        have hnew := setRow_heap w B arr (es ++ news ++ arr.toList.drop (es.length + news.length)).toArray (X.el t) (0, 0) hh
        have hwr := Turn.write' H hk (l ++ m).length (w' := w.setRow B (es ++ news ++ arr.toList.drop (es.length + news.length)).toArray) (by simp) (fun b hb => setRow_other w B b _ hb) (by
         rw [blkSize_eq hnew, blkSize_eq hh]
         simp
         omega) rfl rfl rfl (.vec (X.el t) te' (l ++ m)) (killP [k]) (.inr (by simp [killP]))
         (fun hst hsm => ⟨rfl, _, es ++ news, hnew, hsz, (by
           have := At.of_cells hnew
           have e1 : (es ++ news ++ arr.toList.drop (es.length + news.length)).toArray.toList = (es ++ news) ++ arr.toList.drop (es.length + news.length) := by simp
           rw [e1] at this
           exact this.left), repL_mono (fun _ _ => rep_stay hst) (repL_append hr hnews)⟩)
        refine ⟨_, _, hrun, _, ⟨[.slice (some ⟨B, 0, none⟩) (l.length + m.length) cap], ?_, rfl⟩, hwr⟩
        rw [repC]
        refine .inr ⟨B, (l ++ m).length, cap, updL_same _ _ _, by rw [List.length_append], by rw [List.length_append]; exact hroom, hcap, ?_⟩
        rw [blkSize_eq hnew]
        simp
        omega
       ·exact grow (some ⟨B, 0, none⟩) cap es hel (.inr ⟨B, 0, rfl, hA⟩) hr (by omega)
     ·cases hev
  ·cases hev
 ·cases hev
theorem At.heap {w w' : World} {b o : Nat} {cs : List Value} (h : At w b o cs) (hh : w'.heap = w.heap) : At w' b o cs := by
 intro j v hj
 have := h j v hj
 unfold World.cell? at this ⊢
 rw [hh]; exact this
theorem byteL_cells (b : ByteArray) : ∀ (l : List UInt8), repL (rep (fun _ => False) w (.int .u8)) (l.map fun x => (x.toNat : Int)) (l.map fun x => Value.int .u8 x.toNat) := by
 intro l
 induction l with
 | nil => rfl
 | cons x xs ih =>
   refine ⟨[.int .u8 x.toNat], _, rfl, ?_, ih⟩
   rw [rep]
   refine ⟨rfl, ?_, ?_⟩
   ·have h0 : IntKind.u8.min = 0 := by decide
    rw [h0]
    show (0 : Int) ≤ ((x.toNat : Nat) : Int)
    omega
   ·have h0 : IntKind.u8.max = 255 := by decide
    rw [h0]
    have h1 : x.toNat < 256 := x.toNat_lt
    show ((x.toNat : Nat) : Int) ≤ 255
    omega
theorem evAppB_sound (K : TyOk P X) (H : HoldsE F σ ι w) {h : Hint} {id : Nat} (hid : σ id = none) {t t' ty : TypeId} {s x : V} {o : Out} (hev : evAppB X σ h id t t' s x = some o) (hc : AllTrue o.c) {vs vx : Value}
 (hs : repV (Imm F ι w) ι w s vs) (hx : repV (Imm F ι w) ι w x vx) :
 ∃ u w', (Builtin.append_ #[t, t'] ty #[vs, vx]).run P w = .ok u w' ∧ Done F σ ι w o u w' := by
 unfold evAppB at hev
 split at hev
 ·rename_i te ht
  have row : ∀ m, t = t' → rowOf σ te x = some m → evAppM X σ h id t te s m = some o → ∃ u w', (Builtin.append_ #[t, t'] ty #[vs, vx]).run P w = .ok u w' ∧ Done F σ ι w o u w' := by
   rintro m rfl hm hev
   obtain ⟨base, cap, es, rfl, hr, hb, _⟩ := rowOf_sound H hm hx
   have hl : es.length = m.length * te.size := repL_length (fun _ _ => rep_length) hr
   refine evAppM_sound K H hid ht hev hc hs (K.slice ht).1 (.inr ⟨_, rfl⟩) hr rfl fun w' hw => ?_
   refine run_firstCells w' te.size base m.length cap es hl ?_
   rcases hb with h0 | ⟨b, o, h1, h2⟩
   ·exact .inl (by rw [h0]; rfl)
   ·exact .inr ⟨b, o, h1, h2.heap hw⟩
  simp only at hev
  split at hev
  ·rename_i b
   split at hev
   ·rename_i ht'
    cases hm : T.cast (a := .sl (.int .u8)) (.sl te) (byteL b) with
    | none => rw [hm] at hev; cases hev
    | some m =>
      rw [hm, Option.bind_some] at hev
      obtain ⟨e, he⟩ := T.cast_some hm
      have e' : T.int .u8 = te := by injection e
      subst e'
      subst he
      obtain ⟨rfl, hsz⟩ := repV_str hx
      obtain ⟨d, hd, hsh⟩ := K.und ht'
      have hds : d = .string := by cases d <;> first | rfl | (cases hsh; done)
      subst hds
      refine evAppM_sound K H hid ht hev hc hs hd (.inl rfl) (news := b.data.toList.map fun x => Value.int .u8 x.toNat) (repL_mono (fun x cs h => by rw [rep] at h ⊢; exact h) (byteL_cells (w := w) b b.data.toList)) ?_ fun w' hw => ?_
      ·simp [Builtin.lenOf, byteL]
      ·have : b.extract 0 b.data.size = b := by
        apply ByteArray.ext
        simp
       have hl : (List.length (byteL b)) = b.size := by simp [byteL]
       have h2 : b.extract 0 (List.length (byteL b)) = b := by rw [hl]; exact this
       show (Builtin.firstCells _ (List.length (byteL b)) (.string b)).run P w' = _
       simp only [Builtin.firstCells, h2, Sem.run_pure]
       congr 1
       apply Array.ext'
       simp
   ·cases hev
  ·rename_i x' hx'
   split at hev
   ·rename_i htt
    cases hm : rowOf σ te x with
    | none => rw [hm] at hev; cases hev
    | some m => rw [hm, Option.bind_some] at hev; exact row m htt hm hev
   ·cases hev
 ·cases hev
end
end Go.Sw

namespace Go.Sw
section
variable {P : Program} {X : Ctx} {F : Nat → Prop} {σ : Nat → Option E} {ι : Nat → Loc} {w : World} {I : Nat → Prop}
theorem places_foff {place : Nat → Option (Nat × Nat)} : ∀ {fs : T} {j off : Nat}, Places X place j off fs → ∀ {i : Nat} {p : Nat × T}, T.foff fs i = some p → place (j + i) = some (off + p.1, p.2.size) ∧ ∃ tid, X.ty tid = some p.2 := by
 intro fs
 induction fs with
 | one t ih =>
   intro j off h i p hp
   obtain ⟨h1, h2⟩ := h
   cases i with
   | zero => rw [T.foff] at hp; obtain rfl := Option.some.inj hp; exact ⟨h1, h2⟩
   | succ i => cases hp
 | cons t ts ih1 ih2 =>
   intro j off h i p hp
   obtain ⟨h1, h2, h3⟩ := h
   cases i with
   | zero => rw [T.foff] at hp; obtain rfl := Option.some.inj hp; exact ⟨h1, h2⟩
   | succ i =>
     rw [T.foff] at hp
     cases hq : T.foff ts i with
     | none => rw [hq] at hp; cases hp
     | some q =>
       rw [hq] at hp
       obtain rfl := Option.some.inj hp
       obtain ⟨g1, g2⟩ := ih2 h3 hq
       refine ⟨?_, g2⟩
       rw [show j + (i + 1) = j + 1 + i from by omega, g1, Nat.add_assoc]
 | _ => intro j off h; exact h.elim
theorem okPart_cells {v : V} {u : Value} (hok : okStore v = true) (h1 : v.isAgg = true ∨ v.csize = 1) (hv : repV I ι w v u) : ∃ cs, repC I ι w v cs ∧ u.cells = cs.toArray := by
 have hv' : ∃ cs, repC I ι w v cs ∧ u = mkVal v.isAgg cs := by cases v <;> first | (cases hok; done) | exact hv
 obtain ⟨cs, hcs, rfl⟩ := hv'
 exact ⟨cs, hcs, mkVal_cells hcs h1⟩
theorem fill_part {place : Nat → Option (Nat × Nat)} {fs : T} (hP : Places X place 0 0 fs) {i : Nat} {p : Nat × T} (hp : T.foff fs i = some p) {u : V} (hok : okStore u = true) (hcs : u.csize = p.2.size) (h1 : u.isAgg = true ∨ u.csize = 1)
 {c c' : V} (hw : V.wrW u c p.1 = some c') {val : Value} (hu : repV I ι w u val) {rest : List (Nat × Value)} {cells : Array Value} (hc : repC I ι w c cells.toList) :
 ∃ cells' : Array Value, repC I ι w c' cells'.toList ∧ Instr.fill place cells ((i, val) :: rest) = Instr.fill place cells' rest := by
 obtain ⟨cs, k1, k2⟩ := okPart_cells hok h1 hu
 obtain ⟨pre, es, post, heq, hpl, hel, hr⟩ := V.wrW_sound k1 hw hc
 obtain ⟨hpl', _⟩ := places_foff hP hp
 have hl := repC_length k1
 obtain ⟨cells', g1, g2⟩ := fill_step (v := val) (rest := rest) (by simpa using hpl') heq hpl (by rw [hel, hl, hcs]) (by rw [k2]; simp; rw [hl, hcs])
 refine ⟨cells', ?_, g2⟩
 rw [g1, k2]
 exact hr
theorem fillV_sound (K : TyOk P X) {place : Nat → Option (Nat × Nat)} {fs : T} (hP : Places X place 0 0 fs) : ∀ {ps : List (Nat × V)} {c c' : V}, fillV fs c ps = some c' → ∀ {us : List (Nat × Value)}, PartsRep I ι w ps us →
 ∀ {cells : Array Value}, repC I ι w c cells.toList → ∃ cells' : Array Value, Instr.fill place cells us = some cells' ∧ repC I ι w c' cells'.toList := by
 intro ps
 induction ps with
 | nil =>
   intro c c' h us hps cells hc
   obtain rfl := Option.some.inj h
   cases us with
   | nil => exact ⟨cells, rfl, hc⟩
   | cons u us => cases hps.1
 | cons q ps ih =>
   intro c c' h us hps cells hc
   obtain ⟨i, v⟩ := q
   cases us with
   | nil => cases hps.1
   | cons u us =>
     obtain ⟨i', val⟩ := u
     have hi : i' = i := by have := hps.1; simp at this; exact this.1
     subst hi
     rw [fillV] at h
     cases hp : T.foff fs i' with
     | none => rw [hp] at h; cases h
     | some p =>
       rw [hp, Option.bind_some] at h
       have hv : repV I ι w v val := hps.2 0 (by simp) (by simp)
       have hrest : PartsRep I ι w ps us := ⟨by have := hps.1; simp at this; exact this, fun j hj hj' => by have := hps.2 (j + 1) (by simpa using hj) (by simpa using hj'); simpa using this⟩
       split at h
       ·rename_i hg
        obtain ⟨g1, g2, g3⟩ := hg
        cases hw : V.wrW (asPart p.2 v) c p.1 with
        | none => rw [hw] at h; cases h
        | some c1 =>
          rw [hw, Option.bind_some] at h
          have hu : repV I ι w (asPart p.2 v) val := by
           unfold asPart
           cases hd : toD p.2 v with
           | none => exact hv
           | some x =>
             obtain ⟨cs, k1, k2, k3⟩ := toD_sound hd hv (ty_single K (places_foff hP hp).2)
             rw [k3]
             exact ⟨cs, by rw [repC]; exact k2, rfl⟩
          obtain ⟨cells1, k1, k2⟩ := fill_part (rest := us) hP hp g1 g2 g3 hw hu hc
          obtain ⟨cells2, k3, k4⟩ := ih h hrest k1
          exact ⟨cells2, by rw [k2]; exact k3, k4⟩
       ·cases h
theorem fillP_sound (K : TyOk P X) {place : Nat → Option (Nat × Nat)} {fs : T} (hP : Places X place 0 0 fs) : ∀ {ps : List (Nat × V)} {c c' : V}, fillP fs c ps = some c' → ∀ {us : List (Nat × Value)}, PartsRep I ι w ps us →
 ∀ {cells : Array Value}, repC I ι w c cells.toList → ∃ cells' : Array Value, Instr.fill place cells us = some cells' ∧ repC I ι w c' cells'.toList := by
 intro ps
 induction ps with
 | nil =>
   intro c c' h us hps cells hc
   obtain rfl := Option.some.inj h
   cases us with
   | nil => exact ⟨cells, rfl, hc⟩
   | cons u us => cases hps.1
 | cons q ps ih =>
   intro c c' h us hps cells hc
   obtain ⟨i, v⟩ := q
   cases us with
   | nil => cases hps.1
   | cons u us =>
     obtain ⟨i', val⟩ := u
     have hi : i' = i := by have := hps.1; simp at this; exact this.1
     subst hi
     rw [fillP] at h
     cases hp : T.foff fs i' with
     | none => rw [hp] at h; cases h
     | some p =>
       rw [hp, Option.bind_some] at h
       have hv : repV I ι w v val := hps.2 0 (by simp) (by simp)
       have hrest : PartsRep I ι w ps us := ⟨by have := hps.1; simp at this; exact this, fun j hj hj' => by have := hps.2 (j + 1) (by simpa using hj) (by simpa using hj'); simpa using this⟩
       split at h
       ·rename_i hg
        obtain ⟨g1, g2, g3⟩ := hg
        cases hw : V.wrW v c p.1 with
        | none => rw [hw] at h; cases h
        | some c1 =>
          rw [hw, Option.bind_some] at h
          obtain ⟨cells1, k1, k2⟩ := fill_part (rest := us) hP hp g1 g2 g3 hw hv hc
          obtain ⟨cells2, k3, k4⟩ := ih h hrest k1
          exact ⟨cells2, by rw [k2]; exact k3, k4⟩
       ·cases h
theorem evBuildU_sound (K : TyOk P X) {h : Hint} {t : TypeId} {ps : List (Nat × V)} {o : Out} (hev : evBuildU X h t ps = some o) {us : List (Nat × Value)} (hps : PartsRep I ι w ps us) :
 o.kill = [] ∧ o.upd = [] ∧ ∃ u, (Instr.build t us.toArray).run P w = .ok u w ∧ repV I ι w o.v u := by
 unfold evBuildU at hev
 split at hev
 ·rename_i fs ht
  split at hev
  ·cases hz : buildP fs 0 [] with
   | none => rw [hz] at hev; cases hev
   | some z =>
     rw [hz, Option.bind_some] at hev
     cases hb : fillP fs z ps with
     | none => rw [hb] at hev; cases hev
     | some c =>
       rw [hb, Option.bind_some] at hev
       obtain rfl := Option.some.inj hev
       obtain ⟨cs, h1, h2⟩ := run_build K ht w us (R := fun cs => repC I ι w c cs) (fun place hP => by
        obtain ⟨cells', k1, k2⟩ := fillP_sound (I := I) (ι := ι) (w := w) K hP hb hps (cells := fs.zc.toArray) (by simpa using buildP_zero hz)
        exact ⟨cells', cells'.toList, k1, rfl, k2⟩)
       exact ⟨rfl, rfl, _, h1, cs, by rw [repC]; exact h2, rfl⟩
  ·cases hb : fillV fs (.vcons (.d (.st fs) (T.st fs).dflt) .vnil) ps with
   | none => rw [hb] at hev; cases hev
   | some c =>
     rw [hb, Option.bind_some] at hev
     cases hw : wholeD fs c with
     | none => rw [hw] at hev; cases hev
     | some x =>
       rw [hw, Option.bind_some] at hev
       obtain rfl := Option.some.inj hev
       obtain ⟨cs, h1, h2⟩ := run_build K ht w us (R := fun cs => repC I ι w c cs) (fun place hP => by
        obtain ⟨cells', k1, k2⟩ := fillV_sound (I := I) (ι := ι) (w := w) K hP hb hps (cells := fs.zc.toArray) (by
         simp only [repC]
         exact ⟨fs.zc, [], by simp, by have := rep_zero I w (.st fs); exact this, rfl⟩)
        exact ⟨cells', cells'.toList, k1, rfl, k2⟩)
       refine ⟨rfl, rfl, _, h1, cs, ?_, rfl⟩
       unfold wholeD at hw
       split at hw
       ·rename_i gs y
        obtain ⟨e, rfl⟩ := T.cast_some hw
        subst e
        rw [repC] at h2
        obtain ⟨c1, c2, rfl, q1, q2⟩ := h2
        rw [repC] at q2
        subst q2
        rw [List.append_nil]
        exact q1
       ·cases hw
 ·cases hev
end
end Go.Sw

namespace Go.Sw
section
variable {P : Program} {X : Ctx} {F : Nat → Prop} {σ : Nat → Option E} {ι : Nat → Loc} {w : World} {I : Nat → Prop}
theorem bitI_in {op : BinOp} {k : IntKind} {a b n : Int} (h : bitI op k a b = some n) : (k.min ≤ n ∧ n ≤ k.max) ∧ (binOp op 0 (.int k a) (.int k b)).run P w = .ok (.int k n) w := by
 unfold bitI at h
 split at h <;> first
  | (obtain rfl := Option.some.inj h
     refine ⟨wrap_in _ _, ?_⟩
     simp [binOp, Op.intBits])
  | cases h
theorem shr_in {k : IntKind} {a : Int} (n : Nat) (h1 : k.min ≤ a) (h2 : a ≤ k.max) : k.min ≤ a.fdiv (2 ^ n) ∧ a.fdiv (2 ^ n) ≤ k.max := by
 have hp : (0 : Int) < 2 ^ n := Int.pow_pos (by decide)
 rw [Int.fdiv_eq_ediv_of_nonneg _ (Int.le_of_lt hp)]
 have hmin : k.min ≤ 0 := by cases k <;> decide
 have hmax : 0 ≤ k.max := by cases k <;> decide
 constructor
 ·rcases Int.le_total 0 a with h | h
  ·exact Int.le_trans hmin (Int.ediv_nonneg h (Int.le_of_lt hp))
  ·refine Int.le_trans h1 ?_
   exact (Int.le_ediv_iff_mul_le hp).2 (by
    have h3 : a * 2 ^ n ≤ a * 1 := Int.mul_le_mul_of_nonpos_left h (by omega)
    simpa using h3)
 ·rcases Int.le_total 0 a with h | h
  ·exact Int.le_trans (Int.ediv_le_self _ h) h2
  ·exact Int.le_trans (Int.ediv_nonpos_of_nonpos_of_neg h hp |> fun h => h) hmax
theorem eqGuard_ptr (op : BinOp) (t : TypeId) (x y : Operand) (p : Option Addr) (b : Value) : (eqGuard op t x y (.pointer p) b).run P w = .ok () w := by
 unfold eqGuard
 cases op <;> simp
theorem ptr_cells {v : V} (h : isPtr v = true) {u : Value} (hv : repV I ι w v u) : ∃ a, u = .pointer (some a) := by
 cases v <;> first | (cases h; done) | skip
 ·obtain ⟨B, n, _, rfl⟩ := repV_ptr hv; exact ⟨_, rfl⟩
 ·obtain ⟨cs, h1, h2⟩ := hv
  rw [repC] at h1
  obtain ⟨b, o, es, rfl, _⟩ := h1
  exact ⟨_, h2⟩
 ·obtain ⟨cs, h1, h2⟩ := hv
  rw [repC] at h1
  obtain ⟨B, n, _, rfl⟩ := h1
  exact ⟨_, h2⟩
theorem con_cell {n : Nat} {x : Unit} {u : Value} (hv : repV I ι w (.d (.con n) x) u) : u = kVal n := by
 obtain ⟨cs, h1, h2⟩ := hv
 rw [repC, rep] at h1
 rw [h1] at h2
 exact h2
theorem run_eq_of (t : TypeId) {va vb : Value} {b : Bool} (h : ∀ d : Nat, (Op.equalIn (d + 1) t va vb).run P w = .ok b w) : (Op.equal t va vb).run P w = .ok b w := h 9999
theorem run_binOp_ptr (t : TypeId) {p q : Option Addr} {b : Bool} (h : (Op.equal t (.pointer p) (.pointer q)).run P w = .ok b w) :
 (binOp .eql t (.pointer p) (.pointer q)).run P w = .ok (.bool b) w ∧ (binOp .neq t (.pointer p) (.pointer q)).run P w = .ok (.bool !b) w := by
 constructor <;> simp [binOp, h]
theorem nilEq_sound (K : TyOk P X) {t : TypeId} {x y : V} {px py : Operand} {b : Bool} (h : nilEq (X.ty t) x y (isConst px || isConst py) (ptrSz P t) = some b) {va vb : Value}
 (ha : repV I ι w x va) (hb : repV I ι w y vb) : (∀ op, op = .eql ∨ op = .neq → (eqGuard op t px py va vb).run P w = .ok () w) ∧
   (binOp .eql t va vb).run P w = .ok (.bool b) w ∧ (binOp .neq t va vb).run P w = .ok (.bool !b) w := by
 have ptrT : X.ty t = some (.con 0) → ∃ e, P.underlying t = some (.pointer e) := by
  intro ht
  obtain ⟨d, hd, hs⟩ := K.und ht
  cases d <;> first | (cases hs; done) | exact ⟨_, hd⟩
 have ifT : X.ty t = some (.con 1) → ∃ m, P.underlying t = some (.interface m) := by
  intro ht
  obtain ⟨d, hd, hs⟩ := K.und ht
  cases d <;> first | (cases hs; done) | exact ⟨_, hd⟩
 unfold nilEq at h
 split at h
 ·split at h
  ·rename_i ht
   obtain rfl := Option.some.inj h
   obtain ⟨e, he⟩ := ptrT ht
   obtain rfl := con_cell ha
   obtain rfl := con_cell hb
   exact ⟨fun _ _ => eqGuard_ptr _ _ _ _ _ _, run_binOp_ptr t (run_eq_of t fun d => by simp [Op.equalIn, run_underlying he])⟩
  ·cases h
 ·split at h
  ·rename_i ht
   obtain rfl := Option.some.inj h
   obtain ⟨m, he⟩ := ifT ht.1
   obtain rfl := con_cell ha
   obtain rfl := con_cell hb
   have hc := ht.2
   have heq : (Op.equal t .nilIface .nilIface).run P w = .ok true w := run_eq_of t fun d => by simp [Op.equalIn, run_underlying he]
   refine ⟨fun op hop => ?_, ?_⟩
   ·rcases hop with rfl | rfl <;> (cases px <;> cases py <;> simp_all [isConst, eqGuard, kVal])
   ·constructor <;> simp [binOp, kVal, heq]
  ·cases h
 ·split at h
  ·rename_i k o k' o' hg
   obtain rfl := Option.some.inj h
   obtain ⟨ht, rfl, rfl, hsz⟩ := hg
   obtain ⟨e, he⟩ := ptrT ht
   obtain ⟨B, n, hB, rfl⟩ := repV_ptr ha
   obtain ⟨B', n', hB', rfl⟩ := repV_ptr hb
   rw [hB] at hB'
   injection hB' with hB1 hB2
   subst hB1
   unfold ptrSz at hsz
   rw [he] at hsz
   simp only [Option.isSome_iff_exists] at hsz
   obtain ⟨j, hj⟩ := hsz
   exact ⟨fun _ _ => eqGuard_ptr _ _ _ _ _ _, run_binOp_ptr t (run_eq_of t fun d => by simp [Op.equalIn, run_underlying he, sizeOf, typeInfo, hj, run_sameAddr_same])⟩
  ·cases h
 ·split at h
  ·rename_i ht
   obtain rfl := Option.some.inj h
   obtain ⟨e, he⟩ := ptrT ht.1
   obtain rfl := con_cell ha
   obtain ⟨a, rfl⟩ := ptr_cells ht.2 hb
   exact ⟨fun _ _ => eqGuard_ptr _ _ _ _ _ _, run_binOp_ptr t (run_eq_of t fun d => by simp [Op.equalIn, run_underlying he])⟩
  ·cases h
 ·split at h
  ·rename_i ht
   obtain rfl := Option.some.inj h
   obtain ⟨e, he⟩ := ptrT ht.1
   obtain rfl := con_cell hb
   obtain ⟨a, rfl⟩ := ptr_cells ht.2 ha
   exact ⟨fun _ _ => eqGuard_ptr _ _ _ _ _ _, run_binOp_ptr t (run_eq_of t fun d => by simp [Op.equalIn, run_underlying he])⟩
  ·cases h
 ·cases h
theorem evBinB_sound (K : TyOk P X) {op : BinOp} {t : TypeId} {x y : V} {px py : Operand} {o : Out} (hev : evBinB P X op t x y (isConst px || isConst py) = some o) (hc : AllTrue o.c) {va vb : Value}
 (ha : repV I ι w x va) (hb : repV I ι w y vb) :
 o.kill = [] ∧ o.upd = [] ∧ ∃ u, ((do eqGuard op t px py va vb; binOp op t va vb) : Sem Value).run P w = .ok u w ∧ repV I ι w o.v u := by
 have gi : ∀ (op : BinOp) (k : IntKind) (a : Int) (b : Value), (eqGuard op t px py (.int k a) b).run P w = .ok () w := fun op k a b => run_eqGuard_int op t px py _ b (fun _ h => by cases h) (fun h => by cases h)
 unfold evBinB at hev
 split at hev
 ·rename_i k a k' b
  obtain rfl := Option.some.inj hev
  obtain ⟨rfl, h1, h2⟩ := repV_int ha
  obtain ⟨rfl, h3, h4⟩ := repV_int hb
  have hn : ¬ (b : Int) < 0 := Int.not_lt.2 hc.1
  refine ⟨rfl, rfl, .int k (k.wrap (a * 2 ^ min b.toNat k.bits)), ?_, repV_int_mk (wrap_in _ _)⟩
  simp only [Sem.run_bind, gi, Result.andThen_ok]
  simp [binOp, Op.shift, hn]
 ·rename_i k a k' b
  obtain rfl := Option.some.inj hev
  obtain ⟨rfl, h1, h2⟩ := repV_int ha
  obtain ⟨rfl, h3, h4⟩ := repV_int hb
  have hn : ¬ (b : Int) < 0 := Int.not_lt.2 hc.1
  refine ⟨rfl, rfl, .int k (a.fdiv (2 ^ min b.toNat k.bits)), ?_, repV_int_mk (shr_in _ h1 h2)⟩
  simp only [Sem.run_bind, gi, Result.andThen_ok]
  simp [binOp, Op.shift, hn]
 ·rename_i op' k a k' b _ _
  split at hev
  ·rename_i hk
   subst hk
   cases hn : bitI op k a b with
   | none => rw [hn] at hev; cases hev
   | some n =>
     rw [hn, Option.bind_some] at hev
     obtain rfl := Option.some.inj hev
     obtain ⟨rfl, h1, h2⟩ := repV_int ha
     obtain ⟨rfl, h3, h4⟩ := repV_int hb
     obtain ⟨hin, _⟩ := bitI_in (P := P) (w := w) hn
     refine ⟨rfl, rfl, .int k n, ?_, repV_int_mk hin⟩
     simp only [Sem.run_bind, gi, Result.andThen_ok]
     unfold bitI at hn
     split at hn <;> first
      | (obtain rfl := Option.some.inj hn
         simp [binOp, Op.intBits])
      | cases hn
  ·cases hev
 ·cases hn : nilEq (X.ty t) x y (isConst px || isConst py) (ptrSz P t) with
  | none => rw [hn] at hev; cases hev
  | some b =>
    rw [hn, Option.bind_some] at hev
    obtain rfl := Option.some.inj hev
    obtain ⟨h1, h2, h3⟩ := nilEq_sound (w := w) K hn ha hb
    refine ⟨rfl, rfl, .bool b, ?_, repV_bool_mk _⟩
    simp only [Sem.run_bind, h1 _ (.inl rfl), Result.andThen_ok, h2]
 ·cases hn : nilEq (X.ty t) x y (isConst px || isConst py) (ptrSz P t) with
  | none => rw [hn] at hev; cases hev
  | some b =>
    rw [hn, Option.bind_some] at hev
    obtain rfl := Option.some.inj hev
    obtain ⟨h1, h2, h3⟩ := nilEq_sound (w := w) K hn ha hb
    refine ⟨rfl, rfl, .bool (!b), ?_, repV_bool_mk _⟩
    simp only [Sem.run_bind, h1 _ (.inr rfl), Result.andThen_ok, h3]
 ·cases hev
end
end Go.Sw

namespace Go.Sw
section
variable {P : Program} {X : Ctx} {F : Nat → Prop} {σ : Nat → Option E} {ι : Nat → Loc} {w : World} {I : Nat → Prop}
theorem shape_of {w : World} {B : Nat} {arr : Array Value} {e : TypeId} {fr : Nat × Nat} (h : w.heap[B]? = some (.cells arr e fr)) : w.shape? B = some (e, arr.size) := by
 unfold World.shape?; rw [h]
theorem isU8_sound {e : TypeId} (h : isU8 P e = true) : P.underlying e = some (.int .u8) := by
 unfold isU8 at h
 split at h
 ·assumption
 ·cases h
theorem repL_ints {k : IntKind} : ∀ {m : List Int} {es : List Value}, repL (rep I w (.int k)) m es → es = m.map (Value.int k) := by
 intro m
 induction m with
 | nil => intro es h; exact h
 | cons x xs ih =>
   intro es h
   obtain ⟨c1, c2, rfl, h1, h2⟩ := h
   rw [rep] at h1
   rw [h1.1, ih h2]
   rfl
theorem foldl_bytes : ∀ (m : List Int) (r : ByteArray), m.foldl (fun r n => r.push (UInt8.ofNat n.toNat)) r = ⟨r.data ++ (m.map fun n => UInt8.ofNat n.toNat).toArray⟩ := by
 intro m
 induction m with
 | nil => intro r; simp
 | cons x xs ih =>
   intro r
   rw [List.foldl_cons, ih]
   simp [ByteArray.push]
theorem bytesOf_size (m : List Int) : (bytesOf m).size = m.length := by
 unfold bytesOf
 show Array.size _ = _
 simp
theorem evConvB_sound (K : TyOk P X) (H : HoldsE F σ ι w) {s d : TypeId} {x : V} {o : Out} (hev : evConvB P X σ s d x = some o) (hc : AllTrue o.c) {va : Value} (ha : repV (Imm F ι w) ι w x va) :
 ∃ u w', (convert s d va).run P w = .ok u w' ∧ Done F σ ι w o u w' := by
 unfold evConvB at hev
 split at hev
 ·rename_i t k off hs hd
  split at hev
  ·rename_i bt c hk
   split at hev
   ·rename_i hg
    obtain rfl := Option.some.inj hev
    obtain ⟨hoff, hsz⟩ := hg
    obtain ⟨B, n, hB, rfl⟩ := repV_ptr ha
    obtain ⟨arr, hh, hr⟩ := H.box hk hB
    have hl := repC_length hr
    cases hi : P.info? t with
    | none => rw [hi] at hsz; cases hsz
    | some j =>
      rw [hi] at hsz
      have hj : j.size ≠ 0 := by simpa using hsz
      refine ⟨_, _, Go.Lib.run_to_unsafe w _ hs hd hi hj (shape_of hh) ?_, Done.pure H rfl rfl ha⟩
      have : arr.size = c.csize := by simpa using hl
      show off < arr.size
      omega
   ·cases hev
  ·cases hev
 ·rename_i u k off hs hd
  split at hev
  ·rename_i bt c hk
   split at hev
   ·rename_i hg
    obtain rfl := Option.some.inj hev
    obtain ⟨hlies, hinf⟩ := hg
    obtain ⟨B, n, hB, rfl⟩ := repV_ptr ha
    obtain ⟨arr, hh, hr⟩ := H.box hk hB
    have hl := repC_length hr
    have hsz : arr.size = c.csize := by simpa using hl
    obtain ⟨j, hj⟩ := Option.isSome_iff_exists.1 hinf
    refine ⟨_, _, Go.Lib.run_from_unsafe w _ hs hd hj (shape_of hh) ?_, Done.pure H rfl rfl ha⟩
    rw [hsz]
    exact hlies
   ·cases hev
  ·cases hev
 ·rename_i x _ _ _ e hs hd
  split at hev
  ·rename_i hu
   have hu8 := isU8_sound hu
   cases hm : rowOf σ (.int .u8) x with
   | none => rw [hm] at hev; cases hev
   | some m =>
     rw [hm, Option.bind_some] at hev
     obtain rfl := Option.some.inj hev
     obtain ⟨base, cap, es, rfl, hr, hb, hlen⟩ := rowOf_sound H hm ha
     have hes := repL_ints hr
     have hrun : (convert s d (.slice base (List.length m) cap)).run P w = .ok (.string (bytesOf m)) w := by
      rw [run_convert_bytes_string w s d e base _ cap hs hu8 hd]
      have hbytes : ∀ (hload : ∃ a, base = some a ∧ (loadCells a (List.length m)).run P w = .ok (m.map (Value.int .u8)).toArray w), (Conv.bytesToString (.slice base (List.length m) cap)).run P w = .ok (.string (bytesOf m)) w := by
       rintro ⟨a, rfl, hload⟩
       rw [run_bytesToString w a _ cap m hload, foldl_bytes]
       simp [bytesOf]
      rcases hb with h0 | ⟨b, off, rfl, hA⟩
      ·have h0' : m = [] := h0
       subst h0'
       cases base with
       | none => rfl
       | some a => exact hbytes ⟨a, rfl, by simp [loadCells, loadCellsFrom]⟩
      ·refine hbytes ⟨_, rfl, ?_⟩
       rw [hes] at hA
       have := run_loadCells_list (P := P) w ⟨b, off, none⟩ (m.map (Value.int .u8)) (fun j v hj => by rw [addr_add]; exact hA j v hj)
       rw [List.length_map] at this
       exact this
     refine ⟨_, _, hrun, Done.pure H rfl rfl (repV_str_mk ?_)⟩
     rw [bytesOf_size]
     exact hlen
  ·cases hev
 ·rename_i e b hs hd
  split at hev
  ·rename_i hg
   obtain rfl := Option.some.inj hev
   have hu8 := isU8_sound hg.1
   have hsmall : (b : ByteArray).size ≤ 1073741824 := hc.1
   obtain ⟨rfl, hbs⟩ := repV_str ha
   have hrun := run_bytes_of_string (P := P) w s d e b hs hd hu8
   have hdr := Turn.drew H
   have hge := grownCap_ge w (b : ByteArray).size 0 e
   have hle := grownCap_le_maxLen w (b : ByteArray).size 0 e (by unfold maxLen; omega)
   have h9 : maxLen = 9223372036854775807 := by decide
   have hn := Turn.fresh hdr.mem (.cells (bytesRow b (grownCap w (b : ByteArray).size 0 e)) e ((bytesRow b (grownCap w (b : ByteArray).size 0 e)).size, (bytesRow b (grownCap w (b : ByteArray).size 0 e)).size + 1))
   refine ⟨_, _, hrun, Done.upd0 rfl rfl ⟨[.slice (some ⟨w.heap.size, 0, none⟩) (b : ByteArray).size (grownCap w (b : ByteArray).size 0 e)], ?_, rfl⟩ (hdr.trans' hn)⟩
   rw [repC, rep]
   have hl : List.length (byteL b) = (b : ByteArray).size := by simp [byteL]
   refine ⟨_, grownCap w (b : ByteArray).size 0 e, by rw [← hl], by show List.length (byteL b) ≤ _; rw [hl]; exact hge, by omega, fun _ => ⟨w.heap.size, 0, (b : ByteArray).data.toList.map fun x => Value.int .u8 x.toNat, rfl, imm_fresh hdr.mem _, ?_, repL_mono (fun x cs h => by rw [rep] at h ⊢; exact h) (byteL_cells (w := w) b (b : ByteArray).data.toList)⟩⟩
   have hA := At.of_cells (heap_alloc_new' w.drew (.cells (bytesRow b (grownCap w (b : ByteArray).size 0 e)) e ((bytesRow b (grownCap w (b : ByteArray).size 0 e)).size, (bytesRow b (grownCap w (b : ByteArray).size 0 e)).size + 1)))
   have e1 : (bytesRow b (grownCap w (b : ByteArray).size 0 e)).toList = ((b : ByteArray).data.toList.map fun x => Value.int .u8 x.toNat) ++ List.replicate (grownCap w (b : ByteArray).size 0 e - (b : ByteArray).size) (.int .u8 0) := by
    simp [bytesRow]
   rw [e1] at hA
   exact hA.left
  ·cases hev
 ·cases hev
theorem arrayOk_zc {te : T} : ∀ {n : Nat} {fs : T}, arrayOk te n fs = true → fs.zc = (List.replicate n te.zc).flatten ∧ fs.size = n * te.size := by
 intro n
 induction n with
 | zero => intro fs h; cases fs <;> cases h
 | succ n ih =>
   intro fs h
   cases n with
   | zero =>
     cases fs with
     | one t =>
       simp only [arrayOk, decide_eq_true_eq] at h
       subst h
       exact ⟨by simp [T.zc], by simp [T.size]⟩
     | _ => cases h
   | succ n =>
     cases fs with
     | cons t ts =>
       simp only [arrayOk, Bool.and_eq_true, decide_eq_true_eq] at h
       obtain ⟨rfl, h2⟩ := h
       obtain ⟨h3, h4⟩ := ih h2
       refine ⟨by rw [T.zc, h3]; simp [List.replicate_succ], ?_⟩
       rw [T.size, h4]
       simp only [Nat.add_mul]; omega
     | _ => cases h
theorem arrayOk_head {te t ts : T} {n : Nat} (h : arrayOk te n (.cons t ts) = true) : t = te := by
 cases n with
 | zero => cases h
 | succ n =>
   cases n with
   | zero => cases h
   | succ n =>
     simp only [arrayOk, Bool.and_eq_true, decide_eq_true_eq] at h
     exact h.1
theorem evAllocB_sound (K : TyOk P X) (H : HoldsE F σ ι w) {h : Hint} {id : Nat} (hid : σ id = none) {t : TypeId} {o : Out} (hev : evAllocB X h id t = some o) :
 o.kill = [] ∧ ∃ u w' ι' e, (Instr.alloc t true (.tuple #[])).run P w = .ok u w' ∧ repV (Imm F ι' w') ι' w' o.v u ∧ o.upd = [(id, e)] ∧ Turn F none' ι w (updE σ id (some e)) ι' w' := by
 unfold evAllocB at hev
 split at hev
 ·rename_i te ts ht
  split at hev
  ·rename_i har
   obtain rfl := Option.some.inj hev
   obtain ⟨n, e, te', hu, hte, hok, hsz⟩ := K.array ht har
   obtain rfl := arrayOk_head hok
   obtain ⟨hz, hs⟩ := arrayOk_zc hok
   have hrun : (Instr.alloc t true (.tuple #[])).run P w = .ok (.pointer (some ⟨w.heap.size, 0, none⟩)) (w.alloc (.cells (T.st (.cons te ts)).zc.toArray t)) := by
    unfold Instr.alloc
    simp only [Sem.run_bind, run_zeroValue K ht w, Result.andThen_ok, run_newVar, Sem.run_pure]
    rw [mkVal_zc_cells K ⟨_, ht⟩]
   have hn : (T.st (.cons te ts)).size / te.size = n := by
    show (T.cons te ts).size / te.size = n
    rw [hs]
    exact Nat.mul_div_cancel _ hsz
   have hturn := Turn.named H hid (.cells (T.st (.cons te ts)).zc.toArray t) n (.vec t te (List.replicate ((T.st (.cons te ts)).size / te.size) te.dflt))
    (fun hst hsm => ⟨by rw [hn]; simp, _, (T.st (.cons te ts)).zc, heap_alloc_new' _ _, hsz, At.of_new w _ t, by
      rw [hn]
      show repL _ _ (T.cons te ts).zc
      rw [hz]
      exact repL_replicate (rep_zero _ _ _) _⟩)
   refine ⟨rfl, _, _, _, _, hrun, ⟨[.pointer (some ⟨w.heap.size, 0, none⟩)], ?_, rfl⟩, rfl, hturn⟩
   rw [repC]
   exact ⟨w.heap.size, n, updL_same _ _ _, by simp⟩
  ·cases hev
 ·cases hev
theorem repV_elt {k : Nat} {t : T} {i off : Nat} {v : Value} (h : repV I ι w (.elt k t i off) v) : ∃ B n, ι k = .blk B n ∧ v = .pointer (some ⟨B, i * t.size + off, none⟩) := by
 obtain ⟨cs, h1, h2⟩ := h
 rw [repC] at h1
 obtain ⟨B, n, hB, rfl⟩ := h1
 exact ⟨B, n, hB, h2⟩
theorem run_slice_arr (K : TyOk P X) {t el : TypeId} {te : T} {n : Nat} (hu : P.underlying t = some (.array n el)) (hte : X.ty el = some te) (w : World) (a : Addr) {lo hi mx : Option Value} {L H M : Nat}
 (hb : (Instr.sliceBounds false n n lo hi mx).run P w = .ok (L, H, M) w) :
 (Instr.sliceAt t (.pointer (some a)) lo hi mx).run P w = .ok (.slice (some (if M = L then a else a.add (L * te.size))) (H - L) (M - L)) w := by
 unfold Instr.sliceAt
 simp only [Sem.run_bind, run_underlying hu, Result.andThen_ok, Instr.sureAddr, Sem.run_pure, hb, run_sizeOf K hte w]
theorem evSliceB_sound (K : TyOk P X) (HE : HoldsE F σ ι w) {t : TypeId} {x : V} {lo hi mx : Option V} {o : Out} (hev : evSliceB X σ t x lo hi mx = some o) (hc : AllTrue o.c) {va : Value} {vl vh vm : Option Value}
 (ha : repV (Imm F ι w) ι w x va) (hl : OptRep (Imm F ι w) ι w lo vl) (hh : OptRep (Imm F ι w) ι w hi vh) (hm : OptRep (Imm F ι w) ι w mx vm) :
 o.kill = [] ∧ o.upd = [] ∧ ∃ u, (Instr.sliceAt t va vl vh vm).run P w = .ok u w ∧ repV (Imm F ι w) ι w o.v u := by
 unfold evSliceB at hev
 split at hev
 ·rename_i k te te' ts l h ht h1 h2
  split at hev
  ·rename_i hg
   obtain ⟨har, rfl⟩ := hg
   cases hv : vecOf σ k te' with
   | none => rw [hv] at hev; cases hev
   | some r =>
     obtain ⟨e, row⟩ := r
     rw [hv, Option.bind_some] at hev
     split at hev
     ·rename_i hg2
      obtain ⟨he, hsize⟩ := hg2
      obtain rfl := Option.some.inj hev
      obtain ⟨n, el, te2, hu, hte, hok, hsz⟩ := K.array ht har
      obtain rfl := arrayOk_head hok
      obtain ⟨_, hs⟩ := arrayOk_zc hok
      have hn : List.length row = n := by
       have : List.length row * te'.size = n * te'.size := by rw [← hs]; exact hsize
       exact Nat.eq_of_mul_eq_mul_right hsz this
      obtain ⟨pl, rfl, rfl⟩ := intOf_sound h1 hl
      obtain ⟨ph, rfl, rfl⟩ := intOf_sound h2 hh
      cases vm with
      | some _ => exact hm.elim
      | none =>
      obtain ⟨B, m, hB, rfl⟩ := repV_elt ha
      have hrow := (HE.vec (vecOf_some hv) hB).1
      obtain ⟨M, hrun, ⟨g1, g2, g3⟩, g4, g5, g6⟩ := run_cut (P := P) w false (List.length row) (List.length row) (Nat.le_refl _) pl ph none hc.2
      have hc0 : List.length row ≤ 1073741824 := hc.1
      rw [hn] at hrun
      have hr := run_slice_arr K hu hte w ⟨B, 0, none⟩ hrun
      have hsmall : List.length row ≤ 1073741824 := hc0
      rw [show 0 * te'.size + 0 = 0 from by simp]
      refine ⟨rfl, rfl, _, hr, ⟨[.slice _ _ _], ?_, rfl⟩⟩
      rw [repC]
      dsimp only
      simp only [Option.map_none] at *
      rw [hn] at *
      refine ⟨B, m, _, M - (evCut (n : Int) (pl.map (·.2)) (ph.map (·.2)) none).1.toNat, hB, rfl, fun hpos => ?_, ?_, ?_, ?_⟩
      ·rw [if_neg (by omega)]
       simp [addr_add]
      ·omega
      ·omega
      ·omega
     ·cases hev
  ·cases hev
 ·cases hev
end
end Go.Sw

namespace Go.Sw
section
variable {P : Program} {X : Ctx} {F : Nat → Prop} {σ : Nat → Option E} {ι : Nat → Loc} {w : World} {I : Nat → Prop}
theorem tabAt_sound (hG : Gl P F ι w) {g : Nat} {cs : List Value} (h : tabAt P g = some cs) : Imm F ι w g ∧ At w g 0 cs := by
 unfold tabAt at h
 cases hf : tabs.find? (fun p => P.globalNamed p.1 == some g) with
 | none => rw [hf] at h; cases h
 | some p =>
   rw [hf] at h
   obtain rfl := Option.some.inj h
   have h1 := List.find?_some hf
   have h2 := List.mem_of_find?_eq_some hf
   exact hG p h2 g (by simpa using h1)
theorem evIndexB_sound (K : TyOk P X) (H : HoldsE F σ ι w) (hG : Gl P F ι w) {γ : Nat → V} {a : Act} (hs : ∀ t, repV (Imm F ι w) ι w (γ t) (a.tmps.getD t undef)) {t : TypeId} {x i : Operand} {o : Out}
 (hev : evIndexB P X σ t x (look γ x) (look γ i) = some o) (hc : AllTrue o.c) :
 o.kill = [] ∧ o.upd = [] ∧ ∃ u, (Instr.indexAt t (a.eval x) (a.eval i)).run P w = .ok u w ∧ repV (Imm F ι w) ι w o.v u := by
 have hL := look_sound (I := Imm F ι w) (ι := ι) (w := w) hs
 unfold evIndexB at hev
 split at hev
 ·rename_i k n hi
  have hiv := hL i
  rw [hi] at hiv
  obtain ⟨hie, hn1, hn2⟩ := repV_int hiv
  rw [hie]
  split at hev
  ·rename_i g
   split at hev
   ·rename_i cs fs htab ht
    split at hev
    ·rename_i har
     cases hp : T.foff fs n.toNat with
     | none => rw [hp] at hev; cases hev
     | some p =>
       rw [hp, Option.bind_some] at hev
       split at hev
       ·rename_i k2 m hcell
        split at hev
        ·rename_i hrange
         obtain rfl := Option.some.inj hev
         obtain ⟨himm, hA⟩ := tabAt_sound hG htab
         have hr := run_indexAt_ar K ht har w g 0 k n hc.1 hp
         refine ⟨rfl, rfl, _, hr, ⟨[.pointer (some ⟨g, 0 + p.1, none⟩)], ?_, rfl⟩⟩
         rw [repC]
         refine ⟨g, 0 + p.1, [.int k2 m], rfl, himm, ?_, by rw [rep]; exact ⟨rfl, hrange⟩⟩
         intro j v hj
         cases j with
         | zero =>
           simp at hj
           subst hj
           have := hA p.1 _ hcell
           simpa using this
         | succ j => simp at hj
        ·cases hev
       ·cases hev
    ·cases hev
   ·cases hev
  ·split at hev
   ·rename_i k2 te fs hx ht
    split at hev
    ·rename_i har
     cases hp : T.foff fs n.toNat with
     | none => rw [hp] at hev; cases hev
     | some p =>
       rw [hp, Option.bind_some] at hev
       split at hev
       ·rename_i hoff
        obtain rfl := Option.some.inj hev
        have hxv := hL x
        rw [hx] at hxv
        obtain ⟨B, m, hB, he⟩ := repV_elt hxv
        rw [he]
        have hr := run_indexAt_ar K ht har w B (0 * te.size + 0) k n hc.1 hp
        refine ⟨rfl, rfl, _, hr, ⟨[.pointer (some ⟨B, 0 * te.size + 0 + p.1, none⟩)], ?_, rfl⟩⟩
        rw [repC]
        exact ⟨B, m, hB, by rw [hoff]; simp⟩
       ·cases hev
    ·cases hev
   ·cases hev
 ·cases hev
theorem Turn.freezeRow (h : HoldsE F σ ι w) {k B n : Nat} (hk : ι k = .blk B n) {w' : World} (hsz : w'.heap.size = w.heap.size) (hother : ∀ b, b ≠ B → w'.heap[b]? = w.heap[b]?)
 (hcell : ∀ o v, w.cell? ⟨B, o, none⟩ = some v → w'.cell? ⟨B, o, none⟩ = some v) (ho : w'.os = w.os) (htp : w'.tape = w.tape) (hout : w'.output = w.output) :
 Turn F (fun id => id == k) ι w (updE (killE (fun id => id == k) σ) k none) (updL ι k .dead) w' := by
 have hst : Stay (Imm F ι w) (Imm F (updL ι k .dead) w') w w' := by
  refine ⟨fun b hb => ⟨by rw [hsz]; exact hb.1, hb.2.1, fun id m hid => ?_⟩, fun b o v hb hc => ?_⟩
  ·by_cases hk' : id = k
   ·subst hk'; rw [updL_same] at hid; cases hid
   ·rw [updL_ne _ _ hk'] at hid; exact hb.2.2 id m hid
  ·by_cases hbB : b = B
   ·subst hbB; exact hcell o v hc
   ·rw [cell_of_heap (hother b hbB)]; exact hc
 have hne : ∀ id m B', id ≠ k → ι id = .blk B' m → B' ≠ B := fun id m B' h1 h2 h3 => by subst h3; exact h1 (h.inj id k B' m n h2 hk)
 have hsm : Same (fun id => id == k) ι (updL ι k .dead) w w' := by
  refine ⟨fun id hp _ => updL_ne _ _ (by simpa using hp), fun id B' m hp hB => blkSize_of_heap (hother B' (hne id m B' (by simpa using hp) hB))⟩
 refine ⟨hst, hsm, ⟨fun id e' he' => ?_, fun id hid => ?_, fun id id' B m m' h1 h2 => ?_, fun b hb => ?_⟩, ⟨ho, htp, hout, by rw [hsz]; exact Nat.le_refl _, fun b hb hn => hother b (fun hbB => by subst hbB; exact hn k n hk), fun id B m hB => ?_⟩⟩
 ·by_cases hk' : id = k
  ·subst hk'; rw [updE_same] at he'; cases he'
  ·rw [updE_ne _ _ hk'] at he'
   rw [updL_ne _ _ hk']
   obtain ⟨e0, h0, rfl⟩ := killE_some he'
   exact repE_kill hst hsm (fun B' m hB => hother B' (hne id m B' hk' hB)) (h.ents id e0 h0)
 ·by_cases hk' : id = k
  ·subst hk'; exact updL_same _ _ _
  ·rw [updE_ne _ _ hk'] at hid
   rw [updL_ne _ _ hk']
   exact h.dead id (killE_nil hid)
 ·by_cases hk1 : id = k
  ·subst hk1; rw [updL_same] at h1; cases h1
  ·by_cases hk2 : id' = k
   ·subst hk2; rw [updL_same] at h2; cases h2
   ·rw [updL_ne _ _ hk1] at h1; rw [updL_ne _ _ hk2] at h2; exact h.inj _ _ _ _ _ h1 h2
 ·obtain ⟨h1, h2⟩ := h.foreign b hb
  refine ⟨by rw [hsz]; exact h1, fun id m hid => ?_⟩
  by_cases hk' : id = k
  ·subst hk'; rw [updL_same] at hid; cases hid
  ·rw [updL_ne _ _ hk'] at hid; exact h2 id m hid
 ·by_cases hk' : id = k
  ·subst hk'; rw [updL_same] at hB; cases hB
  ·rw [updL_ne _ _ hk'] at hB; exact .inl ⟨id, m, hB⟩
theorem freeze_other (w : World) (a : Addr) (n : Nat) {b : Nat} (hb : b ≠ a.block) : (w.freeze a n).heap[b]? = w.heap[b]? := by
 unfold World.freeze
 split
 ·rfl
 ·simp [Array.getElem?_modify, Ne.symm hb]
theorem freeze_size (w : World) (a : Addr) (n : Nat) : (w.freeze a n).heap.size = w.heap.size := by
 unfold World.freeze
 split
 ·rfl
 ·simp
theorem freeze_cell (w : World) (B n o : Nat) {v : Value} (h : w.cell? ⟨B, o, none⟩ = some v) : (w.freeze ⟨B, 0, none⟩ n).cell? ⟨B, o, none⟩ = some v := by
 unfold World.freeze
 split
 ·exact h
 ·unfold World.cell? at h ⊢
  simp only [Array.getElem?_modify, if_true]
  cases ho : w.heap[B]? with
  | none => rw [ho] at h; cases h
  | some ob =>
    rw [ho] at h
    cases ob <;> first | (cases h; done) | skip
    simp only [Option.map_some]
    exact h
theorem unsafeString_sound (K : TyOk P X) (H : HoldsE F σ ι w) {k : Nat} {e : Nat} {l : List Int} (hl : vecOf σ k (.int .u8) = some (e, l)) {n : Int} (h0 : 0 < n) (hn : n ≤ (l.length : Int)) (hmax : n ≤ 9223372036854775807) {pt it ty u : TypeId} (hp : P.underlying pt = some (.pointer u)) (he : e = u) (hcu : P.cellsOf u = 1)
 {va : Value} (ha : repV (Imm F ι w) ι w (.elt k (.int .u8) 0 0) va) {c : List Cnd} :
 ∃ u' w', (Builtin.unsafeString_ #[pt, it] ty #[va, .int .i64 n]).run P w = .ok u' w' ∧ Done F σ ι w ⟨.d .str (bytesOf (List.take n.toNat l)), [k], [(k, .vec e (.int .u8) [])], c⟩ u' w' := by
 subst he
 obtain ⟨B, m, hB, rfl⟩ := repV_elt ha
 obtain ⟨hlm, arr, es, hh, hsz, hA, hr⟩ := H.vec (vecOf_some hl) hB
 have hes := repL_ints hr
 have hnat : n = ((n.toNat : Nat) : Int) := by omega
 have hlen : n.toNat ≤ l.length := by omega
 have hall : ∀ x ∈ l, 0 ≤ x ∧ x ≤ 255 := by
  have key : ∀ {l : List Int} {es : List Value}, repL (rep (Imm F ι w) w (.int .u8)) l es → ∀ x ∈ l, 0 ≤ x ∧ x ≤ 255 := by
   intro l
   induction l with
   | nil => intro es _ x hx; cases hx
   | cons y ys ih =>
     intro es h x hx
     obtain ⟨c1, c2, rfl, q1, q2⟩ := h
     rw [rep] at q1
     cases hx with
     | head =>
       have : IntKind.u8.min = 0 := by decide
       have h2 : IntKind.u8.max = 255 := by decide
       have q3 := q1.2
       rw [this, h2] at q3
       exact q3
     | tail _ hx => exact ih q2 x hx
  exact key hr
 have hbl : ∀ (l : List Int), (∀ x ∈ l, 0 ≤ x ∧ x ≤ 255) → (l.map fun x => UInt8.ofNat x.toNat).map (fun b => Value.int .u8 (b.toNat : Int)) = l.map (Value.int .u8) := by
  intro l
  induction l with
  | nil => intro _; rfl
  | cons y ys ih =>
    intro h
    have h1 := h y (by simp)
    rw [List.map_cons, List.map_cons, List.map_cons, ih fun x hx => h x (by simp [hx])]
    congr 2
    rw [UInt8.toNat_ofNat']
    omega
 obtain ⟨bl, hbl0⟩ : ∃ bl : List UInt8, bl = (List.take n.toNat l).map fun x => UInt8.ofNat x.toNat := ⟨_, rfl⟩
 have hbll : bl.length = n.toNat := by rw [hbl0]; simp; omega
 have hcells : ∀ j x, bl[j]? = some x → w.cell? ((⟨B, 0, none⟩ : Addr).add j) = some (.int .u8 x.toNat) := by
  intro j x hj
  rw [addr_add]
  have hmap := hbl (List.take n.toNat l) fun x hx => hall x (List.mem_of_mem_take hx)
  rw [← hbl0] at hmap
  have h1 : (bl.map fun b => Value.int .u8 (b.toNat : Int))[j]? = some (.int .u8 (x.toNat : Int)) := by rw [List.getElem?_map, hj]; rfl
  rw [hmap] at h1
  have hjn : j < n.toNat := by
   have := (List.getElem?_eq_some_iff.1 hj).1
   omega
  rw [List.map_take, List.getElem?_take, if_pos hjn] at h1
  exact hA j _ (by rw [hes]; exact h1)
 have harr : l.length ≤ arr.size := by
  have h1 : es.length = l.length := by rw [hes]; simp
  rcases Nat.lt_or_ge arr.size l.length with hlt | hge
  ·exfalso
   have h2 := hA arr.size _ (List.getElem?_eq_getElem (l := es) (by omega))
   simp [World.cell?, hh] at h2
  ·exact hge
 have hcap : bl.length ≤ 9223372036854775807 := by omega
 have hrun := Go.Lib.run_unsafeString_row (P := P) w pt it ty e hp hcu B arr.size (shape_of hh) bl (by intro h; rw [h] at hbll; simp at hbll; omega) (by omega) hcap hcells
 rw [hbll, ← hnat] at hrun
 have hstr : (⟨bl.toArray⟩ : ByteArray) = bytesOf (List.take n.toNat l) := by rw [hbl0]; rfl
 rw [hstr] at hrun
 have t1 := Turn.freezeRow H hB (w' := w.freeze ⟨B, 0, none⟩ n.toNat) (freeze_size _ _ _) (fun b hb => freeze_other _ _ _ hb) (fun o v h => freeze_cell _ _ _ _ h) (by unfold World.freeze; split <;> rfl) (by unfold World.freeze; split <;> rfl) (by unfold World.freeze; split <;> rfl)
 have t2 := Turn.nilv t1.mem (updE_same _ _ _) e (.int .u8)
 have t := t1.trans_none t2
 rw [updE_updE, updL_updL] at t
 refine ⟨_, _, by simpa using hrun, updL ι k .nilv, repV_str_mk ?_, ?_⟩
 ·rw [bytesOf_size]
  have : (List.take n.toNat l).length = bl.length := by rw [hbl0]; simp
  omega
 ·unfold after
  rw [killP_one]
  exact t
theorem find_noEscape {fn : Func} (h1 : fn.name = "internal/abi.NoEscape") (h2 : fn.origin = "") : Extern.findNext fn = none ∧ Extern.find fn = some Extern.AbiNoEscape.same := by
 unfold Extern.findNext Extern.find
 rw [h1, h2]
 constructor <;> kernel_rfl
theorem indexByte_le (l : List UInt8) (c : UInt8) : Lib.indexByte l c ≤ (l.length : Int) := by
 induction l with
 | nil => simp [Lib.indexByte]
 | cons b l ih =>
   unfold Lib.indexByte
   rw [List.length_cons]
   split
   ·omega
   ·split
    ·omega
    ·push_cast; omega
theorem byteFn_sound {fn : Func} {g : Nat} (hfn : P.funcs[g]? = some fn) (hb : fn.body.isNone = true) (ho : fn.origin = "") {s : ByteArray} (hs : (s.size : Int) ≤ 9223372036854775807) {b : Int} {out : Out} (h : byteFn fn.name s b = some out) :
 ∃ n : Int, out = ⟨.d (.int .i64) n, [], [], []⟩ ∧ (IntKind.min .i64 ≤ n ∧ n ≤ IntKind.max .i64) ∧ (callFunc g #[.string s, .int .u8 b]).run P w = .ok (.value (.int .i64 n)) w := by
 have hmin : IntKind.min .i64 = -9223372036854775808 := by decide
 have hmax : IntKind.max .i64 = 9223372036854775807 := by decide
 have hl : s.data.toList.length = s.size := by rw [Lib.size_eq]
 unfold byteFn at h
 split at h
 ·rename_i hn
  obtain rfl := Option.some.inj h
  have e1 : Extern.findNext fn = none := by unfold Extern.findNext; rw [hn, ho]; kernel_rfl
  have e2 : Extern.find fn = some Extern.BytealgIndexByte.indexByte := by unfold Extern.find; rw [hn, ho]; kernel_rfl
  refine ⟨_, rfl, ?_, ?_⟩
  ·have h1 := Lib.indexByte_ge s.data.toList b.toNat.toUInt8
   have h2 := indexByte_le s.data.toList b.toNat.toUInt8
   rw [hmin, hmax]
   omega
  rw [run_callFunc_extern hfn (by rw [hn]; decide) hb e1 e2, Lib.run_indexByteString]
  rfl
 ·split at h
  ·rename_i hn
   obtain rfl := Option.some.inj h
   have e1 : Extern.findNext fn = none := by unfold Extern.findNext; rw [hn, ho]; kernel_rfl
   have e2 : Extern.find fn = some Extern.BytealgCount.count := by unfold Extern.find; rw [hn, ho]; kernel_rfl
   refine ⟨_, rfl, ?_, ?_⟩
   ·have h2 : Lib.countByte s.data.toList b.toNat.toUInt8 ≤ s.data.toList.length := List.count_le_length
    rw [hmin, hmax]
    omega
   rw [run_callFunc_extern hfn (by rw [hn]; decide) hb e1 e2, Lib.run_countString]
   rfl
  ·cases h
theorem evCallB_wp (K : TyOk P X) (H : HoldsE F σ ι w) {γ : Nat → V} {a : Act} (hs : ∀ t, repV (Imm F ι w) ι w (γ t) (a.tmps.getD t undef)) {id : Nat} (hid : σ id = none) {h : Hint} {c : Call} {o : Oper} (ho : o.op = .call c) {out : Out}
 (hev : evCallB P X (look γ) σ id h c = some out) (hc : AllTrue out.c) {Q : Exit → Act → World → Prop} :
 o.wp P a w (fun a' w' => ∃ u, a' = a.put o.dst u ∧ Done F σ ι w out u w') Q := by
 have hL := look_sound (I := Imm F ι w) (ι := ι) (w := w) hs
 obtain ⟨callee, args, argTypes⟩ := c
 unfold evCallB at hev
 simp only at hev
 have bi : ∀ {b : Builtin} {u : Value} {w' : World}, callee = .builtin b → ((builtin b argTypes o.type (args.map fun | .const _ => true | _ => false) (args.map a.eval)).run P w = .ok (.value u) w') →
  (execOp a.eval o).run P w = .ok (.value u) w' := by
  intro b u w' hb hr
  subst hb
  unfold execOp
  simp only [ho, resolve, Sem.run_bind, Sem.run_pure, Result.andThen_ok, invoke]
  exact hr
 split at hev
 ·-- append
  split at hev
  ·rename_i s x t t' h1 h2
   have ha : args.map a.eval = #[a.eval s, a.eval x] := by apply Array.ext'; simp [h1]
   have hat : argTypes = #[t, t'] := by apply Array.ext'; simp [h2]
   obtain ⟨u, w', hr, hd⟩ := evAppB_sound (ty := o.type) K H hid hev hc (hL s) (hL x)
   refine wp_value (bi rfl ?_) ⟨u, rfl, hd⟩
   rw [ha, hat]
   simp only [builtin, Sem.run_bind, hr, Result.andThen_ok, Sem.run_pure]
  ·cases hev
 ·-- cap
  split at hev
  ·rename_i x t h1 h2
   have ha : args.map a.eval = #[a.eval x] := by apply Array.ext'; simp [h1]
   have hat : argTypes = #[t] := by apply Array.ext'; simp [h2]
   split at hev
   ·rename_i te hx ht
    obtain rfl := Option.some.inj hev
    have hxv := hL x
    rw [hx] at hxv
    have hxe := repV_nil hxv
    refine wp_value (bi (u := goInt 0) (w' := w) rfl ?_) ⟨_, rfl, Done.pure H rfl rfl (repV_int_mk (by decide))⟩
    rw [ha, hat, hxe]
    simp [builtin, Builtin.cap_, run_underlying (K.slice ht).1]
   ·cases hev
  ·cases hev
 ·-- unsafe.SliceData
  split at hev
  ·rename_i x h1
   have ha : args.map a.eval = #[a.eval x] := by apply Array.ext'; simp [h1]
   split at hev
   ·rename_i k te hx
    cases hl : vecOf σ k te with
    | none => rw [hl] at hev; cases hev
    | some p =>
      obtain ⟨e, l⟩ := p
      rw [hl, Option.bind_some] at hev
      obtain rfl := Option.some.inj hev
      have hpos : 0 < l.length := hc.1
      have hxv := hL x
      rw [hx] at hxv
      rcases vec_slice H hl hxv with ⟨_, _, rfl⟩ | ⟨B, cap, hk, he, g1, g2, g3⟩
      ·simp at hpos
      ·refine wp_value (bi (u := .pointer (some ⟨B, 0, none⟩)) (w' := w) rfl ?_) ⟨_, rfl, Done.pure H rfl rfl ⟨[.pointer (some ⟨B, 0, none⟩)], ?_, rfl⟩⟩
       ·rw [ha, he]
        have : cap ≠ 0 := by omega
        simp only [builtin, Sem.run_bind, Go.Lib.run_unsafeSliceData_row w _ _ _ _ _ this, Result.andThen_ok, Sem.run_pure]
       ·rw [repC]
        exact ⟨B, _, hk, by simp⟩
   ·cases hev
  ·cases hev
 ·-- unsafe.String
  split at hev
  ·rename_i x y pt it h1 h2
   have ha : args.map a.eval = #[a.eval x, a.eval y] := by apply Array.ext'; simp [h1]
   have hat : argTypes = #[pt, it] := by apply Array.ext'; simp [h2]
   split at hev
   ·rename_i k n u hx hy hp
    cases hl : vecOf σ k (.int .u8) with
    | none => rw [hl] at hev; cases hev
    | some p =>
      obtain ⟨e, l⟩ := p
      rw [hl, Option.bind_some] at hev
      split at hev
      ·rename_i hg
       obtain rfl := Option.some.inj hev
       have hxv := hL x
       rw [hx] at hxv
       have hyv := hL y
       rw [hy] at hyv
       obtain ⟨hye, _, hmax⟩ := repV_int hyv
       obtain ⟨c1, c2, _⟩ := hc
       obtain ⟨u', w', hr, hd⟩ := unsafeString_sound (it := it) (ty := o.type) K H hl c1 c2 hmax hp hg.1 hg.2 hxv
       refine wp_value (bi rfl ?_) ⟨u', rfl, hd⟩
       rw [ha, hat, hye]
       simp only [builtin, Sem.run_bind, hr, Result.andThen_ok, Sem.run_pure]
      ·cases hev
   ·cases hev
  ·cases hev
 ·-- internal/abi.NoEscape
  rename_i f
  split at hev
  ·rename_i g hf
   split at hev
   ·rename_i fn x hfn h1
    split at hev
    ·rename_i hg
     obtain ⟨g1, g2, g3⟩ := hg
     split at hev
     ·rename_i k off hx
      obtain rfl := Option.some.inj hev
      have hfv := hL f
      rw [hf] at hfv
      obtain ⟨cs, hcs, hfe⟩ := hfv
      rw [repC] at hcs
      obtain ⟨va, vc, rfl, hva, hvc⟩ := hcs
      rw [repC] at hva hvc
      have hva' : va = #[] := by apply Array.ext'; simpa using hva
      have hvc' : vc = #[] := by apply Array.ext'; simpa using hvc
      subst hva'
      subst hvc'
      have hfe' : a.eval f = .func (.func g) #[] #[] := hfe
      have hxv := hL x
      rw [hx] at hxv
      have ha : args.map a.eval = #[a.eval x] := by apply Array.ext'; simp [h1]
      obtain ⟨e1, e2⟩ := find_noEscape g2 g3
      have hrun := run_callFunc_extern hfn (by rw [g2]; decide) g1 e1 e2 #[a.eval x] w
      refine wp_value (u := a.eval x) (w' := w) ?_ ⟨_, rfl, Done.pure H rfl rfl hxv⟩
      unfold execOp
      simp only [ho, resolve, hfe', Deferred.ofValue, Sem.run_bind, Sem.run_pure, Result.andThen_ok, invoke, ha, Array.append_empty, Array.empty_append, hrun]
      rfl
     ·cases hev
    ·cases hev
   ·-- internal/bytealg at a string and a byte
    rename_i fn x y hfn h1
    split at hev
    ·rename_i s b hx hy
     split at hev
     ·rename_i hg
      obtain ⟨g1, g3⟩ := hg
      have hfv := hL f
      rw [hf] at hfv
      obtain ⟨cs, hcs, hfe⟩ := hfv
      rw [repC] at hcs
      obtain ⟨va, vc, rfl, hva, hvc⟩ := hcs
      rw [repC] at hva hvc
      have hva' : va = #[] := by apply Array.ext'; simpa using hva
      have hvc' : vc = #[] := by apply Array.ext'; simpa using hvc
      subst hva'
      subst hvc'
      have hfe' : a.eval f = .func (.func g) #[] #[] := hfe
      have hxv := hL x
      rw [hx] at hxv
      have hyv := hL y
      rw [hy] at hyv
      have hxe : a.eval x = .string s := (repV_str hxv).1
      have hye : a.eval y = .int .u8 b := (repV_int hyv).1
      have ha : args.map a.eval = #[.string s, .int .u8 b] := by apply Array.ext'; simp [h1, hxe, hye]
      obtain ⟨n, rfl, hn, hrun⟩ := byteFn_sound (w := w) hfn g1 g3 (repV_str hxv).2 hev
      refine wp_value (u := .int .i64 n) (w' := w) ?_ ⟨_, rfl, Done.pure H rfl rfl (repV_int_mk hn)⟩
      unfold execOp
      simp only [ho, resolve, hfe', Deferred.ofValue, Sem.run_bind, Sem.run_pure, Result.andThen_ok, invoke, ha, Array.append_empty, Array.empty_append, hrun]
     ·cases hev
    ·cases hev
   ·cases hev
  ·cases hev
 ·cases hev
theorem evOpB_wp (K : TyOk P X) (H : HoldsE F σ ι w) (hG : Gl P F ι w) {γ : Nat → V} {a : Act} (hs : ∀ t, repV (Imm F ι w) ι w (γ t) (a.tmps.getD t undef)) {id : Nat} (hid : σ id = none) {h : Hint} {o : Oper} {out : Out}
 (hev : evOpB P X (look γ) σ id h o.op = some out) (hc : AllTrue out.c) {Q : Exit → Act → World → Prop} :
 o.wp P a w (fun a' w' => ∃ u, a' = a.put o.dst u ∧ Done F σ ι w out u w') Q := by
 have hL := look_sound (I := Imm F ι w) (ι := ι) (w := w) hs
 have rd : ∀ {s : Sem Value} , (∀ ρ : Operand → Value, ρ = a.eval → execOp ρ o = (do pure (.value (← s)) : Sem Next)) → out.kill = [] ∧ out.upd = [] ∧ (∃ u, s.run P w = .ok u w ∧ repV (Imm F ι w) ι w out.v u) →
  o.wp P a w (fun a' w' => ∃ u, a' = a.put o.dst u ∧ Done F σ ι w out u w') Q := by
  intro s he ⟨h1, h2, u, hr, hu⟩
  refine wp_value (u := u) (w' := w) ?_ ⟨u, rfl, Done.pure H h1 h2 hu⟩
  rw [he _ rfl]
  simp only [Sem.run_bind, hr, Result.andThen_ok, Sem.run_pure]
 have dn : ∀ {s : Sem Value} , (∀ ρ : Operand → Value, ρ = a.eval → execOp ρ o = (do pure (.value (← s)) : Sem Next)) → (∃ u w', s.run P w = .ok u w' ∧ Done F σ ι w out u w') →
  o.wp P a w (fun a' w' => ∃ u, a' = a.put o.dst u ∧ Done F σ ι w out u w') Q := by
  intro s he ⟨u, w', hr, hd⟩
  refine wp_value (u := u) (w' := w') ?_ ⟨u, rfl, hd⟩
  rw [he _ rfl]
  simp only [Sem.run_bind, hr, Result.andThen_ok, Sem.run_pure]
 obtain ⟨dst, op, type, pos, after, guard⟩ := o
 unfold evOpB at hev
 simp only at hev
 cases op <;> first | (cases hev; done) | (try simp only at hev)
 case alloc t =>
  obtain ⟨h1, u, w', ι', e, hr, hu, h2, ht⟩ := evAllocB_sound K H hid hev
  exact dn (s := Instr.alloc t true (.tuple #[])) (fun ρ hρ => by subst hρ; rfl) ⟨u, w', hr, Done.upd1 h1 h2 hu ht⟩
 case build t ps =>
  have hps : (ps.map fun p => (p.1, a.eval p.2)).toList.toArray = ps.map fun (i, x) => (i, a.eval x) := Array.toArray_toList
  have he := evBuildU_sound K hev (partsRep (look γ) a.eval hL ps)
  exact rd (s := Instr.build t (ps.map fun (i, x) => (i, a.eval x))) (fun ρ hρ => by subst hρ; rfl) (by rwa [hps] at he)
 case binOp op t x y yt => exact rd (s := do eqGuard op t x y (a.eval x) (a.eval y); binOp op t (a.eval x) (a.eval y)) (fun ρ hρ => by subst hρ; rfl) (evBinB_sound K hev hc (hL x) (hL y))
 case convert s d x => exact dn (fun ρ hρ => by subst hρ; rfl) (evConvB_sound K H hev hc (hL x))
 case slice t x lo hi mx => exact rd (fun ρ hρ => by subst hρ; rfl) (evSliceB_sound K H hev hc (hL x) (optRep _ _ hL lo) (optRep _ _ hL hi) (optRep _ _ hL mx))
 case indexAddr t x i => exact rd (fun ρ hρ => by subst hρ; rfl) (evIndexB_sound K H hG hs hev hc)
 case call c => exact evCallB_wp K H hs hid rfl hev hc
end
end Go.Sw

namespace Go.Sw
section
variable {P : Program} {X : Ctx} {F : Nat → Prop} {σ : Nat → Option E} {ι : Nat → Loc} {w : World} {I : Nat → Prop}
theorem evOp_wp (K : TyOk P X) (H : HoldsE F σ ι w) (hG : Gl P F ι w) {γ : Nat → V} {a : Act} (hs : ∀ t, repV (Imm F ι w) ι w (γ t) (a.tmps.getD t undef)) {id : Nat} (hid : σ id = none) {h : Hint} {o : Oper} {out : Out}
 (hev : evOp P X (look γ) σ id h o.op = some out) (hc : AllTrue out.c) {Q : Exit → Act → World → Prop} :
 o.wp P a w (fun a' w' => ∃ u, a' = a.put o.dst u ∧ Done F σ ι w out u w') Q := by
 unfold evOp at hev
 split at hev
 ·exact evOpB_wp K H hG hs hid hev hc
 ·split at hev
  ·rename_i r hr
   obtain rfl := Option.some.inj hev
   exact evOpA_wp K H hG hs hid hr hc
  ·exact evOpB_wp K H hG hs hid hev hc
end
end Go.Sw
