/- What regions that draw, loops and calls of the code compute over plain data, and a law out of the contract of its function; no conditions. -/
import Derived.Test.YtnjgokpdlolapaaGreatDoorSwb
import Derived.ProofKit
import Derived.OpenShut
import Derived.Lay
namespace Go.Sw
def hintAt : List (Nat × Hint) → Nat → Hint
 | [], _ => .no
 | (k, h) :: r, i => if k = i then h else hintAt r i
def decideV (h : Hint) (v : V) : V × List Cnd :=
 match h with
 | .b β => (match v with | .d .bool x => (.d .bool β, [dc (x = β)]) | v => (v, [.p False]))
 | _ => (v, [])
def St.kill (ks : List Nat) (s : St) : St :=
 match ks with
 | [] => s
 | ks => ⟨s.Γ.map fun p => (p.1, p.2.kill (killP ks)), s.σ.map fun p => (p.1, p.2.kill (killP ks))⟩
def St.upd (s : St) : List (Nat × E) → St
 | [] => s
 | (k, e) :: r => St.upd ⟨s.Γ, (k, e) :: s.σ⟩ r
def St.put (s : St) (d : Option Nat) (v : V) : St := match d with
 | none => s
 | some d => ⟨(d, v) :: s.Γ, s.σ⟩
def dstOk (n : Nat) (d : Option Nat) : Bool := match d with
 | none => true
 | some d => d < n
def wantedV (ops : Array Oper) (γ : Nat → V) (g : Option (Nat × Bool)) : Option Bool :=
 match g with
 | none => some true
 | some (j, want) =>
   match (ops[j]?).bind (·.dst) with
   | some d => (match γ d with | .d .bool β => (match β, want with | true, true => some true | false, false => some true | true, false => some false | false, true => some false) | .tup .vnil => some false | _ => none)
   | none => none
def evStep (P : Program) (X : Ctx) (n : Nat) (ops : Array Oper) (hs : List (Nat × Hint)) (base i : Nat) (s : St) : Option (St × List Cnd) :=
 match ops[i]? with
 | none => none
 | some o =>
   if dstOk n o.dst = true then
    match wantedV ops (getV s.Γ) o.guard with
    | some true =>
      (match getE s.σ (base + i) with
       | some _ => none
       | none =>
         match evOp P X (look (getV s.Γ)) (getE s.σ) (base + i) (hintAt hs i) o.op with
         | some out => if lowL out.kill = true then some (((s.kill out.kill).upd out.upd).put o.dst (decideV (hintAt hs i) out.v).1, out.c ++ (decideV (hintAt hs i) out.v).2) else none
         | none => none)
    | some false => some (s.put o.dst (.tup .vnil), [])
    | none => none
   else none
def evOps (P : Program) (X : Ctx) (n : Nat) (ops : Array Oper) (hs : List (Nat × Hint)) (base : Nat) : List Nat → St → Option (St × List Cnd)
 | [], s => some (s, [])
 | i :: is, s => match evStep P X n ops hs base i s with
   | some r => (match evOps P X n ops hs base is r.1 with | some q => some (q.1, r.2 ++ q.2) | none => none)
   | none => none
section
variable {P : Program} {X : Ctx} {F : Nat → Prop} {ι : Nat → Loc} {w : World}
theorem getV_map (f : V → V) (hf : f .un = .un) : ∀ (Γ : List (Nat × V)) (t : Nat), getV (Γ.map fun p => (p.1, f p.2)) t = f (getV Γ t) := by
 intro Γ
 induction Γ with
 | nil => intro t; exact hf.symm
 | cons p Γ ih =>
   intro t
   simp only [List.map_cons, getV]
   split
   ·rfl
   ·exact ih t
theorem getE_map (f : E → E) : ∀ (σ : List (Nat × E)) (id : Nat), getE (σ.map fun p => (p.1, f p.2)) id = (getE σ id).map f := by
 intro σ
 induction σ with
 | nil => intro id; rfl
 | cons p σ ih =>
   intro id
   simp only [List.map_cons, getE]
   split
   ·rfl
   ·exact ih id
theorem kill_Γ (ks : List Nat) (s : St) : getV (s.kill ks).Γ = fun t => (getV s.Γ t).kill (killP ks) := by
 funext t
 cases ks with
 | nil => rw [killP_nil, V.kill_none]; rfl
 | cons k ks => exact getV_map (V.kill (killP (k :: ks))) rfl s.Γ t
theorem kill_σ (ks : List Nat) (s : St) : getE (s.kill ks).σ = killE (killP ks) (getE s.σ) := by
 cases ks with
 | nil => rw [killP_nil, killE_none]; rfl
 | cons k ks => funext id; exact getE_map (E.kill (killP (k :: ks))) s.σ id
theorem upd_Γ : ∀ (us : List (Nat × E)) (s : St), (s.upd us).Γ = s.Γ := by
 intro us
 induction us with
 | nil => intro s; rfl
 | cons u us ih => intro s; obtain ⟨k, e⟩ := u; rw [St.upd, ih]
theorem getE_cons (k : Nat) (e : E) (σ : List (Nat × E)) : getE ((k, e) :: σ) = updE (getE σ) k (some e) := by
 funext id
 unfold updE
 rw [getE]
 by_cases h : id = k
 ·subst h; simp
 ·rw [if_neg h, if_neg (fun e => h e.symm)]
theorem upd_σ : ∀ (us : List (Nat × E)) (s : St), getE (s.upd us).σ = updAll (getE s.σ) us := by
 intro us
 induction us with
 | nil => intro s; rfl
 | cons u us ih => intro s; obtain ⟨k, e⟩ := u; rw [St.upd, ih, updAll, getE_cons]
theorem put_Γ (s : St) (d : Option Nat) (v : V) : getV (s.put d v).Γ = updV (getV s.Γ) d v := by
 cases d with
 | none => rfl
 | some d => funext t; rfl
theorem put_σ (s : St) (d : Option Nat) (v : V) : (s.put d v).σ = s.σ := by cases d <;> rfl
def DstLt (ops : Array Oper) (n : Nat) : Prop := ∀ (j : Nat) (o : Oper) (d : Nat), ops[j]? = some o → o.dst = some d → d < n
def HoldsS (F : Nat → Prop) (n : Nat) (s : St) (ι : Nat → Loc) (a : Act) (w : World) : Prop := Holds F n (getV s.Γ) (getE s.σ) ι a w
theorem decideV_sound {h : Hint} {v : V} (hc : AllTrue (decideV h v).2) : (decideV h v).1 = v := by
 unfold decideV at *
 split
 ·split
  ·have h1 := hc.1
   rw [h1]
  ·rfl
 ·rfl
theorem dstOk_lt {n : Nat} {d : Option Nat} (h : dstOk n d = true) : ∀ k, d = some k → k < n := by
 intro k hk
 subst hk
 simpa [dstOk] using h
theorem wantedV_sound {n : Nat} {γ : Nat → V} {σ : Nat → Option E} {a : Act} {ops : Array Oper} (H : Holds F n γ σ ι a w) (hops : DstLt ops n) {o : Oper} {β : Bool} (h : wantedV ops γ o.guard = some β) :
 Region.wanted o (yielded ops a.tmps) = β := by
 unfold wantedV at h
 unfold Region.wanted
 cases hg : o.guard with
 | none => rw [hg] at h; exact Option.some.inj h
 | some g =>
   obtain ⟨j, want⟩ := g
   rw [hg] at h
   simp only at h ⊢
   cases hd : (ops[j]?).bind (·.dst) with
   | none => rw [hd] at h; cases h
   | some d =>
     rw [hd] at h
     simp only at h
     have hs := H.slots d
     split at h
     ·rename_i x hγ
      rw [hγ] at hs
      have hb := repV_bool hs
      have hlt : d < a.tmps.size := by
       rw [H.size]
       cases ho : ops[j]? with
       | none => rw [ho] at hd; cases hd
       | some oj => rw [ho] at hd; exact hops j oj d ho hd
      have hy : yielded ops a.tmps j = some x := by
       unfold yielded
       rw [hd]
       simp only [Option.bind_some]
       have : a.tmps[d]? = some (.bool x) := by
        have h1 : a.tmps.getD d undef = a.tmps[d] := by simp [hlt]
        rw [h1] at hb
        simp [hlt, hb]
       rw [this]
      rw [hy]
      cases x <;> cases want <;> (simp at h; subst h; rfl)
     ·rename_i hγ
      rw [hγ] at hs
      obtain ⟨vs, hv, hvs⟩ := hs
      obtain rfl : vs = #[] := Array.ext' hvs
      obtain rfl := Option.some.inj h
      have hlt : d < a.tmps.size := by
       rw [H.size]
       cases ho : ops[j]? with
       | none => rw [ho] at hd; cases hd
       | some oj => rw [ho] at hd; exact hops j oj d ho hd
      have hy : yielded ops a.tmps j = none := by
       unfold yielded
       rw [hd]
       simp only [Option.bind_some]
       have : a.tmps[d]? = some (.tuple #[]) := by
        have h1 : a.tmps.getD d undef = a.tmps[d] := by simp [hlt]
        rw [h1] at hv
        simp [hlt, hv]
       rw [this]
      rw [hy]
      rfl
     ·cases h
theorem evStep_wp (K : TyOk P X) {n : Nat} {ops : Array Oper} (hops : DstLt ops n) {hs : List (Nat × Hint)} {base i : Nat} {s s' : St} {c : List Cnd}
 (hev : evStep P X n ops hs base i s = some (s', c)) (hc : AllTrue c) {a : Act} (H : HoldsS F n s ι a w) (hG : Gl P F ι w) {Kt : Act → World → Prop} {Q : Exit → Act → World → Prop}
 (hk : ∀ ι' a' w', HoldsS F n s' ι' a' w' → ExtA ι w ι' w' → Kt a' w') : wpOp P ops Q i Kt a w := by
 unfold evStep at hev
 unfold wpOp
 cases ho : ops[i]? with
 | none => rw [ho] at hev; cases hev
 | some o =>
   rw [ho] at hev
   simp only at hev ⊢
   split at hev
   ·rename_i hd
    cases hw : wantedV ops (getV s.Γ) o.guard with
    | none => rw [hw] at hev; cases hev
    | some β =>
      rw [hw] at hev
      have hwt := wantedV_sound H hops hw
      cases β with
      | true =>
        simp only at hev
        cases hid : getE s.σ (base + i) with
        | some _ => rw [hid] at hev; cases hev
        | none =>
          rw [hid] at hev
          simp only at hev
          cases he : evOp P X (look (getV s.Γ)) (getE s.σ) (base + i) (hintAt hs i) o.op with
          | none => rw [he] at hev; cases hev
          | some out =>
            rw [he] at hev
            simp only at hev
            split at hev
            ·rename_i hlow
             obtain ⟨rfl, rfl⟩ := Prod.mk.inj (Option.some.inj hev)
             obtain ⟨hc1, hc2⟩ := hc.append
             rw [if_pos hwt]
             refine .inl (Oper.wp_mono ?_ (evOp_wp K H.mem hG H.slots hid he hc1))
             rintro a' w' ⟨u, rfl, hdone⟩
             obtain ⟨ι', h1, h2, h3⟩ := H.done hdone (dstOk_lt hd)
             refine hk ι' _ _ ?_ ⟨h2, lowL_same hlow h3⟩
             unfold HoldsS
             rw [put_Γ, upd_Γ, kill_Γ, put_σ, upd_σ, kill_σ, decideV_sound hc2]
             exact h1
            ·cases hev
      | false =>
        simp only at hev
        obtain ⟨rfl, rfl⟩ := Prod.mk.inj (Option.some.inj hev)
        rw [if_neg (by rw [hwt]; simp)]
        have := H.done (out := ⟨.tup .vnil, [], [], []⟩) (u := undef) (Done.pure H.mem rfl rfl ⟨#[], rfl, rfl⟩) (dstOk_lt hd)
        obtain ⟨ι', h1, h2, h3⟩ := this
        refine hk ι' _ _ ?_ ⟨h2, lowL_same rfl h3⟩
        unfold HoldsS
        rw [put_Γ, put_σ]
        simp only [killP_nil, V.kill_none] at h1
        have he : Go.Sw.after (getE s.σ) ⟨.tup .vnil, [], [], []⟩ = getE s.σ := by
         unfold Go.Sw.after updAll
         simp only [killP_nil, killE_none]
        rw [he] at h1
        exact h1
   ·cases hev
theorem evOps_wp (K : TyOk P X) {n : Nat} {ops : Array Oper} (hops : DstLt ops n) {hs : List (Nat × Hint)} {base : Nat} :
 ∀ {is : List Nat} {s s' : St} {c : List Cnd}, evOps P X n ops hs base is s = some (s', c) → AllTrue c → ∀ {ι : Nat → Loc} {a : Act} {w : World}, HoldsS F n s ι a w → Gl P F ι w → ∀ {Q : Exit → Act → World → Prop},
 (∀ ι' a' w', HoldsS F n s' ι' a' w' → ExtA ι w ι' w' → Q .normal a' w') → wpOps P ops Q is a w := by
 intro is
 induction is with
 | nil =>
   intro s s' c hev hc ι a w H hG Q hk
   obtain ⟨rfl, rfl⟩ := Prod.mk.inj (Option.some.inj hev)
   exact hk ι a w H (ExtA.refl _ _)
 | cons i is ih =>
   intro s s' c hev hc ι a w H hG Q hk
   rw [evOps] at hev
   cases h1 : evStep P X n ops hs base i s with
   | none => rw [h1] at hev; cases hev
   | some r =>
     obtain ⟨s1, c1⟩ := r
     rw [h1] at hev
     simp only at hev
     cases h2 : evOps P X n ops hs base is s1 with
     | none => rw [h2] at hev; cases hev
     | some q =>
       obtain ⟨s2, c2⟩ := q
       rw [h2] at hev
       obtain ⟨rfl, rfl⟩ := Prod.mk.inj (Option.some.inj hev)
       obtain ⟨hc1, hc2⟩ := hc.append
       rw [wpOps_cons]
       refine evStep_wp K hops h1 hc1 H hG fun ι1 a1 w1 H1 e1 => ?_
       exact ih h2 hc2 H1 (hG.ext e1.ext) fun ι2 a2 w2 H2 e2 => hk ι2 a2 w2 H2 (e1.trans e2)
end
end Go.Sw

namespace Go.Sw
theorem Turn.dropP {F : Nat → Prop} {σ : Nat → Option E} {ι : Nat → Loc} {w : World} (h : HoldsE F σ ι w) (p : Nat → Bool) :
 Turn F p ι w (fun id => if p id = true then none else killE p σ id) (fun id => if p id = true then .dead else ι id) w := by
 have back : ∀ id B m, (if p id = true then Loc.dead else ι id) = .blk B m → ι id = .blk B m ∧ p id = false := by
  intro id B m hid
  split at hid
  ·cases hid
  ·rename_i hp; exact ⟨hid, by simpa using hp⟩
 have hst : Stay (Imm F ι w) (Imm F (fun id => if p id = true then .dead else ι id) w) w w :=
  ⟨fun b hb => ⟨hb.1, hb.2.1, fun id m hid => hb.2.2 id m (back id b m hid).1⟩, fun _ _ _ _ h => h⟩
 have hsm : Same p ι (fun id => if p id = true then .dead else ι id) w w := ⟨fun id hp _ => by simp [hp], fun _ _ _ _ _ => rfl⟩
 refine ⟨hst, hsm, ⟨fun id e' he' => ?_, fun id hid => ?_, fun id id' B m m' h1 h2 => h.inj _ _ _ _ _ (back _ _ _ h1).1 (back _ _ _ h2).1, fun b hb => ?_⟩, ⟨rfl, rfl, rfl, Nat.le_refl _, fun _ _ _ => rfl, fun id B m hB => .inl ⟨id, m, (back _ _ _ hB).1⟩⟩⟩
 ·split at he'
  ·cases he'
  ·rename_i hp
   rw [if_neg hp]
   obtain ⟨e0, h0, rfl⟩ := killE_some he'
   exact repE_kill hst hsm (fun _ _ _ => rfl) (h.ents id e0 h0)
 ·split
  ·rfl
  ·rename_i hp
   rw [if_neg hp] at hid
   exact h.dead id (killE_nil hid)
 ·obtain ⟨h1, h2⟩ := h.foreign b hb
  exact ⟨h1, fun id m hid => h2 id m (back _ _ _ hid).1⟩
inductive Ex where
 | nrm | out (id : Nat) | ret
def Ex.exit : Ex → Exit
 | .nrm => .normal
 | .out id => .exit id
 | .ret => .ret
def Run (P : Program) (n : Nat) (c : Code) (s : St) (K : Ex → St → Prop) : Prop :=
 ∀ (F : Nat → Prop) (ι : Nat → Loc) (a : Act) (w : World), HoldsS F n s ι a w → Gl P F ι w →
  c.wp P (fun e a' w' => ∃ x s' ι', e = x.exit ∧ K x s' ∧ HoldsS F n s' ι' a' w' ∧ ExtA ι w ι' w') a w
section
variable {P : Program} {X : Ctx} {n : Nat} {K : Ex → St → Prop} {s : St}
theorem Run.mono {c : Code} {K' : Ex → St → Prop} (h : Run P n c s K) (hk : ∀ x s', K x s' → K' x s') : Run P n c s K' :=
 fun F ι a w H hG => wp_mono (h F ι a w H hG) fun e a' w' ⟨x, s', ι', h1, h2, h3⟩ => ⟨x, s', ι', h1, hk _ _ h2, h3⟩
theorem Run.skip (h : K .nrm s) : Run P n .skip s K := fun F ι a w H hG => wp_skip ⟨.nrm, s, ι, rfl, h, H, ExtA.refl _ _⟩
theorem Run.ret (h : K .ret s) : Run P n .ret s K := fun F ι a w H hG => wp_ret ⟨.ret, s, ι, rfl, h, H, ExtA.refl _ _⟩
theorem Run.exit {id : Nat} (h : K (.out id) s) : Run P n (.exit id) s K := fun F ι a w H hG => wp_exit ⟨.out id, s, ι, rfl, h, H, ExtA.refl _ _⟩
def thenK (next : St → Prop) (K : Ex → St → Prop) : Ex → St → Prop
 | .nrm, s => next s
 | x, s => K x s
theorem Run.seq {c1 c2 : Code} (h : Run P n c1 s (thenK (fun s1 => Run P n c2 s1 K) K)) : Run P n (.seq c1 c2) s K := by
 intro F ι a w H hG
 refine wp_seq (wp_mono (h F ι a w H hG) ?_)
 rintro e a1 w1 ⟨x, s1, ι1, rfl, hK, H1, e1⟩
 cases x with
 | nrm =>
   refine wp_mono (hK F ι1 a1 w1 H1 (hG.ext e1.ext)) ?_
   rintro e a2 w2 ⟨x, s2, ι2, rfl, h2, H2, e2⟩
   exact ⟨x, s2, ι2, rfl, h2, H2, e1.trans e2⟩
 | out id => exact ⟨.out id, s1, ι1, rfl, hK, H1, e1⟩
 | ret => exact ⟨.ret, s1, ι1, rfl, hK, H1, e1⟩
theorem Run.cond {c : Operand} {x y : Code} (b : Bool) (hb : look (getV s.Γ) c = .d .bool b) (ht : b = true → Run P n x s K) (hf : b = false → Run P n y s K) : Run P n (.cond c x y) s K := by
 intro F ι a w H hG
 have := look_sound H.slots c
 rw [hb] at this
 exact wp_cond_split (repV_bool this) (fun h => ht h F ι a w H hG) (fun h => hf h F ι a w H hG)
def inBlockK (id : Nat) (K : Ex → St → Prop) : Ex → St → Prop
 | .out id', s => if id' = id then K .nrm s else K (.out id') s
 | x, s => K x s
theorem Run.block {id : Nat} {c : Code} (h : Run P n c s (inBlockK id K)) : Run P n (.block id c) s K := by
 intro F ι a w H hG
 refine wp_block (wp_mono (h F ι a w H hG) ?_)
 rintro e a1 w1 ⟨x, s1, ι1, rfl, hK, H1, e1⟩
 cases x with
 | nrm => exact ⟨.nrm, s1, ι1, rfl, hK, H1, e1⟩
 | out id' =>
   simp only [inBlockK] at hK
   simp only [Ex.exit, Exit.inBlock]
   split
   ·rename_i h1; rw [if_pos h1] at hK; exact ⟨.nrm, s1, ι1, rfl, hK, H1, e1⟩
   ·rename_i h1; rw [if_neg h1] at hK; exact ⟨.out id', s1, ι1, rfl, hK, H1, e1⟩
 | ret => exact ⟨.ret, s1, ι1, rfl, hK, H1, e1⟩
theorem exists_least (p : Nat → Prop) (h : ∃ k, p k) : ∃ k, p k ∧ ∀ m, p m → k ≤ m := by
 obtain ⟨k, hk⟩ := h
 induction k using Nat.strongRecOn with
 | _ k ih =>
   by_cases hm : ∃ m, m < k ∧ p m
   ·obtain ⟨m, h1, h2⟩ := hm
    exact ih m h1 h2
   ·exact ⟨k, hk, fun m hpm => Nat.le_of_not_lt fun hlt => hm ⟨m, hlt, hpm⟩⟩
noncomputable def least (p : Nat → Prop) : Nat := by
 classical
 exact if h : ∃ k, p k then Classical.choose (exists_least p h) else 0
theorem least_spec {p : Nat → Prop} (h : ∃ k, p k) : p (least p) ∧ ∀ m, p m → least p ≤ m := by
 unfold least
 rw [dif_pos h]
 exact Classical.choose_spec (exists_least p h)
theorem wp_loop_ind {c : Code} {Q : Exit → Act → World → Prop} (R : Nat → Act → World → Prop)
 (round : ∀ k a w, R k a w → c.wp P (Exit.then (fun a' w' => ∃ m, m < k ∧ R m a' w') Q) a w) : ∀ k a w, R k a w → (Code.loop c).wp P Q a w := by
 intro k a w h
 refine wp_loop (fun a w => ∃ k, R k a w) (fun a w => least fun k => R k a w) ⟨k, h⟩ ?_
 intro a w hI
 obtain ⟨h1, _⟩ := least_spec hI
 refine wp_mono (round _ a w h1) ?_
 intro e a' w' hq
 cases e with
 | normal =>
   obtain ⟨m, hm, hR⟩ := hq
   exact ⟨⟨m, hR⟩, Nat.lt_of_le_of_lt ((least_spec (p := fun k => R k a' w') ⟨m, hR⟩).2 m hR) hm⟩
 | _ => exact hq
theorem Run.loop {c : Code} (J : Nat → St → Prop) (round : ∀ k s, J k s → Run P n c s (thenK (fun s1 => ∃ m, m < k ∧ J m s1) K)) (k : Nat) (h : J k s) : Run P n (.loop c) s K := by
 intro F ι a w H hG
 refine wp_loop_ind (fun k a' w' => ∃ s' ι', J k s' ∧ HoldsS F n s' ι' a' w' ∧ ExtA ι w ι' w') ?_ k a w ⟨s, ι, h, H, ExtA.refl _ _⟩
 rintro k a1 w1 ⟨s1, ι1, hJ, H1, e1⟩
 refine wp_mono (round k s1 hJ F ι1 a1 w1 H1 (hG.ext e1.ext)) ?_
 rintro e a2 w2 ⟨x, s2, ι2, rfl, hK, H2, e2⟩
 cases x with
 | nrm => obtain ⟨m, hm, hJ2⟩ := hK; exact ⟨m, hm, s2, ι2, hJ2, H2, e1.trans e2⟩
 | out id => exact ⟨.out id, s2, ι2, rfl, hK, H2, e1.trans e2⟩
 | ret => exact ⟨.ret, s2, ι2, rfl, hK, H2, e1.trans e2⟩
def dstLt (ops : Array Oper) (n : Nat) : Bool := ops.all fun o => dstOk n o.dst
theorem dstLt_spec {ops : Array Oper} (h : dstLt ops n = true) : DstLt ops n := by
 intro j o d ho hd
 have := Array.all_eq_true_iff_forall_mem.1 h o (Array.mem_of_getElem? ho)
 exact dstOk_lt this d hd
def St.keep (s : St) (ts ids : List Nat) : Option St :=
 if (s.σ.all fun p => low p.1 || ids.contains p.1) = true then (ids.mapM fun id => (getE s.σ id).map fun e => (id, e.kill fun id => !ids.contains id)).map fun σ => ⟨ts.map fun t => (t, (getV s.Γ t).kill fun id => !ids.contains id), σ⟩ else none
theorem getE_mem : ∀ {σ : List (Nat × E)} {id : Nat}, getE σ id ≠ none → ∃ e, (id, e) ∈ σ := by
 intro σ
 induction σ with
 | nil => intro id h; exact absurd rfl h
 | cons p σ ih =>
   intro id h
   obtain ⟨k, e⟩ := p
   rw [getE] at h
   split at h
   ·rename_i hk; subst hk; exact ⟨e, by simp⟩
   ·obtain ⟨e', he⟩ := ih h; exact ⟨e', by simp [he]⟩
theorem getV_keep (f : Nat → V) : ∀ (ts : List Nat) (t : Nat), getV (ts.map fun t => (t, f t)) t = if t ∈ ts then f t else .un := by
 intro ts
 induction ts with
 | nil => intro t; rfl
 | cons x ts ih =>
   intro t
   simp only [List.map_cons, getV]
   by_cases h : x = t
   ·subst h; simp
   ·rw [if_neg h, ih]
    have : t ≠ x := fun e => h e.symm
    simp [this]
theorem getE_mapM (f : Nat → Option E) : ∀ (ids : List Nat) (σ : List (Nat × E)), (ids.mapM fun id => (f id).map fun e => (id, e)) = some σ → ∀ id, getE σ id = if id ∈ ids then f id else none := by
 intro ids
 induction ids with
 | nil => intro σ h id; simp at h; subst h; rfl
 | cons x ids ih =>
   intro σ h id
   rw [List.mapM_cons] at h
   cases hx : f x with
   | none => rw [hx] at h; simp at h
   | some e =>
     rw [hx] at h
     cases hm : (ids.mapM fun id => (f id).map fun e => (id, e)) with
     | none => simp [hm] at h
     | some σ' =>
       simp [hm] at h
       subst h
       rw [getE]
       by_cases h1 : x = id
       ·subst h1; simp [hx]
       ·rw [if_neg h1, ih σ' hm]
        have : id ≠ x := fun e => h1 e.symm
        simp [this]
theorem keep_soundV {F : Nat → Prop} {ι : Nat → Loc} {a : Act} {w : World} {s s' : St} {ts ids : List Nat} (h : s.keep ts ids = some s') (H : HoldsS F n s ι a w) : ∃ ι', HoldsS F n s' ι' a w ∧ ExtA ι w ι' w ∧
 ∀ v x, repV (Imm F ι w) ι w v x → repV (Imm F ι' w) ι' w (v.kill fun id => !ids.contains id) x := by
 unfold St.keep at h
 split at h
 rotate_left
 ·cases h
 rename_i hall
 cases hm : (ids.mapM fun id => (getE s.σ id).map fun e => (id, e.kill fun id => !ids.contains id)) with
 | none => rw [hm] at h; cases h
 | some σ =>
   rw [hm] at h
   obtain rfl := Option.some.inj h
   have ht := Turn.dropP H.mem (fun id => !ids.contains id)
   have hm' : (ids.mapM fun id => ((getE s.σ id).map (E.kill fun id => !ids.contains id)).map fun e => (id, e)) = some σ := by
    rw [← hm]
    congr 1
    funext id
    cases getE s.σ id <;> rfl
   have hσ := getE_mapM _ ids σ hm'
   have hσ' : getE σ = fun id => if (!ids.contains id) = true then none else killE (fun id => !ids.contains id) (getE s.σ) id := by
    funext id
    rw [hσ]
    by_cases hi : id ∈ ids
    ·simp [hi, killE]
    ·simp [hi]
   refine ⟨_, ⟨H.defers, H.size, fun t => ?_, ?_, ?_, ht.mem.inj, ht.mem.foreign⟩, ⟨ht.ext, ⟨fun id hid hne => ?_, fun _ _ _ _ _ => rfl⟩⟩, fun v x hv => repV_kill ht.stay ht.same hv⟩
   ·rw [getV_keep (fun t => (getV s.Γ t).kill fun id => !ids.contains id)]
    split
    ·exact repV_kill ht.stay ht.same (H.slots t)
    ·trivial
   ·rw [hσ']; exact ht.mem.ents
   ·rw [hσ']; exact ht.mem.dead
   ·have : getE s.σ id ≠ none := fun e => hne (H.dead id e)
    obtain ⟨e, he⟩ := getE_mem this
    have := List.all_eq_true.1 hall (id, e) he
    simp only [hid, Bool.false_or] at this
    refine ht.same.loc id ?_ hne
    simpa using this
theorem keep_sound {F : Nat → Prop} {ι : Nat → Loc} {a : Act} {w : World} {s s' : St} {ts ids : List Nat} (h : s.keep ts ids = some s') (H : HoldsS F n s ι a w) : ∃ ι', HoldsS F n s' ι' a w ∧ ExtA ι w ι' w := by
 obtain ⟨ι', h1, h2, _⟩ := keep_soundV h H
 exact ⟨ι', h1, h2⟩
theorem Run.keep {c : Code} {s' : St} (ts ids : List Nat) (h : s.keep ts ids = some s') (hr : Run P n c s' K) : Run P n c s K := by
 intro F ι a w H hG
 obtain ⟨ι', H', e'⟩ := keep_sound h H
 refine wp_mono (hr F ι' a w H' (hG.ext e'.ext)) ?_
 rintro e a1 w1 ⟨x, s1, ι1, rfl, hK, H1, e1⟩
 exact ⟨x, s1, ι1, rfl, hK, H1, e'.trans e1⟩
def evReg (P : Program) (X : Ctx) (n : Nat) (ops : Array Oper) (hs : List (Nat × Hint)) (base : Nat) (ts ids : List Nat) (s : St) : Option (St × List Cnd) :=
 if dstLt ops n = true then
  match evOps P X n ops hs base (List.range ops.size) s with
  | some q => (match q.1.keep ts ids with | some s' => some (s', q.2) | none => none)
  | none => none
 else none
theorem Run.region (hT : TyOk P X) {id : Nat} {ops : Array Oper} (hs : List (Nat × Hint)) (base : Nat) (ts ids : List Nat) {s' : St} {c : List Cnd} (hev : evReg P X n ops hs base ts ids s = some (s', c)) (hc : AllTrue c) (hk : K .nrm s') :
 Run P n (.region id ops false) s K := by
 intro F ι a w H hG
 unfold evReg at hev
 split at hev
 ·rename_i hd
  cases he : evOps P X n ops hs base (List.range ops.size) s with
  | none => rw [he] at hev; cases hev
  | some q =>
    obtain ⟨s1, c1⟩ := q
    rw [he] at hev
    simp only at hev
    cases hkp : s1.keep ts ids with
    | none => rw [hkp] at hev; cases hev
    | some s2 =>
      rw [hkp] at hev
      obtain ⟨rfl, rfl⟩ := Prod.mk.inj (Option.some.inj hev)
      refine wp_region (evOps_wp hT (dstLt_spec hd) he hc H hG fun ι1 a1 w1 H1 e1 => ?_)
      obtain ⟨ι2, H2, e2⟩ := keep_sound hkp H1
      exact ⟨.nrm, s2, ι2, rfl, hk, H2, e1.trans e2⟩
 ·cases hev
end
end Go.Sw

namespace Go.Sw
def V.frz (k : Nat) (t : T) (l : List t.D) : V → V
 | .vec id t' => if id = k then .d (.sl t) l else .vec id t'
 | .sub id t' off len => if id = k ∧ t' = t then .d (.sl t) (List.take len (List.drop off l)) else .sub id t' off len
 | .fn f a c => .fn f (a.frz k t l) (c.frz k t l)
 | .agg x => .agg (x.frz k t l)
 | .tup x => .tup (x.frz k t l)
 | .vcons a b => .vcons (a.frz k t l) (b.frz k t l)
 | x => x
def St.freeze (s : St) (k : Nat) : Option St :=
 match getE s.σ k, low k with
 | some (.vec _ t l), true => some ⟨s.Γ.map fun p => (p.1, (p.2.frz k t l).kill fun id => id == k), (s.σ.filter fun p => !(p.1 == k)).map fun p => (p.1, match p.2 with | .box bt c => .box bt ((c.frz k t l).kill fun id => id == k) | e => e)⟩
 | _, _ => none
theorem frz_isAgg (k : Nat) (t : T) (l : List t.D) (x : V) : (x.frz k t l).isAgg = x.isAgg := by
 cases x <;> simp only [V.frz] <;> first | rfl | (split <;> rfl)
section
variable {F : Nat → Prop} {σ : Nat → Option E} {ι : Nat → Loc} {w : World}
theorem frz_leaf (H : HoldsE F σ ι w) {k : Nat} {e : Nat} {t t' : T} {l : List t.D} (hk : σ k = some (.vec e t l)) {cs : List Value} (h : repC (Imm F ι w) ι w (.vec k t') cs) :
 repC (Imm F (updL ι k .dead) w) (updL ι k .dead) w (.d (.sl t) l) cs := by
 have hst := (Turn.drop H k).stay
 have he := H.ents k _ hk
 rw [repC] at h
 rw [repC, rep]
 rcases h with ⟨h1, rfl⟩ | ⟨B, n, cap, h1, rfl, h2, h3, h4⟩
 ·rw [h1] at he
  have hl : l = [] := he
  subst hl
  exact ⟨none, 0, rfl, Nat.le_refl _, by decide, fun h => absurd rfl h⟩
 ·rw [h1] at he
  obtain ⟨hn, arr, es, hh, hsz, hA, hr⟩ := he
  subst hn
  refine ⟨some ⟨B, 0, none⟩, cap, rfl, h2, h3, fun _ => ⟨B, 0, es, rfl, ?_, hA, repL_mono (fun _ _ => rep_stay hst) hr⟩⟩
  refine ⟨H.blk_lt h1, fun hF => (H.foreign B hF).2 k _ h1, fun id m hid => ?_⟩
  by_cases hik : id = k
  ·subst hik; rw [updL_same] at hid; cases hid
  ·rw [updL_ne _ _ hik] at hid; exact hik (H.inj _ _ _ _ _ hid h1)
theorem frz_sub (H : HoldsE F σ ι w) {k : Nat} {e : Nat} {t : T} {l : List t.D} (hk : σ k = some (.vec e t l)) {off len : Nat} {cs : List Value} (h : repC (Imm F ι w) ι w (.sub k t off len) cs) :
 repC (Imm F (updL ι k .dead) w) (updL ι k .dead) w (.d (.sl t) (List.take len (List.drop off l))) cs := by
 have hst := (Turn.drop H k).stay
 have he := H.ents k _ hk
 rw [repC] at h
 rw [repC, rep]
 obtain ⟨B, n, base, cap, h1, rfl, h2, h3, h4, h5⟩ := h
 rw [h1] at he
 obtain ⟨hn, arr, es, hh, hsz, hA, hr⟩ := he
 have hlen : (List.take len (List.drop off l)).length = len := by simp; omega
 refine ⟨base, cap, by rw [hlen], by rw [hlen]; exact h3, h4, fun hne => ?_⟩
 have hpos : 0 < len := by
  rcases Nat.eq_zero_or_pos len with h0 | h0
  ·rw [h0] at hne; simp at hne
  ·exact h0
 have e1 : l = l.take off ++ (List.take len (List.drop off l) ++ List.drop len (List.drop off l)) := by rw [List.take_append_drop, List.take_append_drop]
 rw [e1] at hr
 obtain ⟨c1, c2, rfl, r1, r2⟩ := repL_split hr
 obtain ⟨c3, c4, rfl, r3, r4⟩ := repL_split r2
 have hc1 : c1.length = off * t.size := by
  rw [repL_length (fun _ _ => rep_length) r1]
  congr 1
  simp
  omega
 refine ⟨B, off * t.size, c3, h2 hpos, ?_, ?_, repL_mono (fun _ _ => rep_stay hst) r3⟩
 ·refine ⟨H.blk_lt h1, fun hF => (H.foreign B hF).2 k _ h1, fun id m hid => ?_⟩
  by_cases hik : id = k
  ·subst hik; rw [updL_same] at hid; cases hid
  ·rw [updL_ne _ _ hik] at hid; exact hik (H.inj _ _ _ _ _ hid h1)
 ·have := hA.right
  rw [hc1, Nat.zero_add] at this
  exact this.left
theorem frz_sound (H : HoldsE F σ ι w) {k : Nat} {e : Nat} {t : T} {l : List t.D} (hk : σ k = some (.vec e t l)) :
 ∀ {x : V} {cs : List Value}, repC (Imm F ι w) ι w x cs → repC (Imm F (updL ι k .dead) w) (updL ι k .dead) w ((x.frz k t l).kill fun id => id == k) cs := by
 have hd := Turn.drop H k
 intro x
 induction x with
 | vec id t' =>
   intro cs h
   rw [V.frz]
   split
   ·rename_i hid
    subst hid
    rw [V.kill]
    exact frz_leaf H hk h
   ·exact repC_kill hd.stay hd.same h
 | sub id t' off len =>
   intro cs h
   rw [V.frz]
   split
   ·rename_i hid
    obtain ⟨rfl, rfl⟩ := hid
    rw [V.kill]
    exact frz_sub H hk h
   ·exact repC_kill hd.stay hd.same h
 | fn f a c ih1 ih2 =>
   intro cs h
   rw [repC] at h
   obtain ⟨va, vc, rfl, h1, h2⟩ := h
   rw [V.frz, V.kill, repC]
   exact ⟨va, vc, rfl, ih1 h1, ih2 h2⟩
 | agg l ih => intro cs h; rw [repC] at h; rw [V.frz, V.kill, repC]; exact ih h
 | tup l ih => intro cs h; rw [repC] at h; exact h.elim
 | vcons a b ih1 ih2 =>
   intro cs h
   rw [repC] at h
   obtain ⟨c1, c2, rfl, h1, h2⟩ := h
   rw [V.frz, V.kill, repC]
   exact ⟨c1, c2, rfl, ih1 h1, ih2 h2⟩
 | _ => intro cs h; exact repC_kill hd.stay hd.same h
theorem frzT_sound (H : HoldsE F σ ι w) {k : Nat} {e : Nat} {t : T} {l : List t.D} (hk : σ k = some (.vec e t l)) :
 ∀ {x : V} {vs : List Value}, repT (Imm F ι w) ι w x vs → repT (Imm F (updL ι k .dead) w) (updL ι k .dead) w ((x.frz k t l).kill fun id => id == k) vs := by
 intro x
 induction x with
 | vnil => intro vs h; exact h
 | vcons a b ih1 ih2 =>
   intro vs h
   rw [repT] at h
   obtain ⟨v, vs', rfl, ⟨cs, h1, h2⟩, h3⟩ := h
   rw [V.frz, V.kill, repT]
   exact ⟨v, vs', rfl, ⟨cs, frz_sound H hk h1, by rw [V.kill_isAgg, frz_isAgg]; exact h2⟩, ih2 h3⟩
 | _ => intro vs h; simp only [repT] at h
theorem frzV_sound (H : HoldsE F σ ι w) {k : Nat} {e : Nat} {t : T} {l : List t.D} (hk : σ k = some (.vec e t l)) {x : V} {v : Value} (h : repV (Imm F ι w) ι w x v) :
 repV (Imm F (updL ι k .dead) w) (updL ι k .dead) w ((x.frz k t l).kill fun id => id == k) v := by
 have key : ∀ x : V, (∃ cs, repC (Imm F ι w) ι w x cs ∧ v = mkVal x.isAgg cs) → (∃ cs, repC (Imm F (updL ι k .dead) w) (updL ι k .dead) w ((x.frz k t l).kill fun id => id == k) cs ∧ v = mkVal ((x.frz k t l).kill fun id => id == k).isAgg cs) :=
  fun x ⟨cs, h1, h2⟩ => ⟨cs, frz_sound H hk h1, by rw [V.kill_isAgg, frz_isAgg]; exact h2⟩
 cases x with
 | un => trivial
 | tup y => obtain ⟨vs, h1, h2⟩ := h; exact ⟨vs, h1, frzT_sound H hk h2⟩
 | _ => exact repV_of_cells (key _ h)
theorem getE_filter (k : Nat) (f : E → E) : ∀ (σ : List (Nat × E)) (id : Nat), getE ((σ.filter fun p => !(p.1 == k)).map fun p => (p.1, f p.2)) id = if id = k then none else (getE σ id).map f := by
 intro σ
 induction σ with
 | nil => intro id; simp [getE]
 | cons p σ ih =>
   intro id
   obtain ⟨k', e⟩ := p
   by_cases h : k' = k
   ·subst h
    simp only [beq_self_eq_true, Bool.not_true, Bool.false_eq_true, not_false_eq_true, List.filter_cons_of_neg]
    rw [ih, getE]
    by_cases h2 : id = k'
    ·simp [h2]
    ·rw [if_neg h2, if_neg h2, if_neg (fun e => h2 e.symm)]
   ·have hb : (!(k' == k)) = true := by simp [h]
    rw [List.filter_cons_of_pos (by simpa using h), List.map_cons, getE, getE, ih]
    by_cases h2 : k' = id
    ·subst h2; simp [h]
    ·rw [if_neg h2, if_neg h2]
theorem freeze_sound {n : Nat} {a : Act} {s s' : St} {k : Nat} (h : s.freeze k = some s') (H : HoldsS F n s ι a w) : ∃ ι', HoldsS F n s' ι' a w ∧ ExtA ι w ι' w := by
 unfold St.freeze at h
 split at h
 ·rename_i e t l hk hlow
  obtain rfl := Option.some.inj h
  have hd := Turn.drop H.mem k
  have hsm : Same low ι (updL ι k .dead) w w := hd.same.weak fun id hid => by
   by_cases h : id = k
   ·subst h; rw [hlow] at hid; cases hid
   ·simp [h]
  refine ⟨updL ι k .dead, ⟨H.defers, H.size, fun i => ?_, fun id e' he => ?_, fun id hid => ?_, hd.mem.inj, hd.mem.foreign⟩, hd.ext, hsm⟩
  ·show repV _ _ _ (getV (s.Γ.map fun p => (p.1, (p.2.frz k t l).kill fun id => id == k)) i) _
   rw [getV_map (fun v => (v.frz k t l).kill fun id => id == k) rfl]
   exact frzV_sound H.mem hk (H.slots i)
  ·have he2 : getE ((s.σ.filter fun p => !(p.1 == k)).map fun p => (p.1, match p.2 with | .box bt c => .box bt ((c.frz k t l).kill fun id => id == k) | e => e)) id = some e' := he
   rw [getE_filter k (fun e => match e with | .box bt c => .box bt ((c.frz k t l).kill fun id => id == k) | e => e)] at he2
   by_cases hik : id = k
   ·rw [if_pos hik] at he2; cases he2
   ·rw [if_neg hik] at he2
    rw [updL_ne _ _ hik]
    cases hs : getE s.σ id with
    | none => rw [hs] at he2; cases he2
    | some e0 =>
      rw [hs] at he2
      obtain rfl := Option.some.inj he2
      have h0 := H.ents id e0 hs
      cases e0 with
      | box bt c =>
        cases hl : ι id with
        | blk B m =>
          rw [hl] at h0
          obtain ⟨arr, h1, h2⟩ := h0
          exact ⟨arr, h1, frz_sound H.mem hk h2⟩
        | dead => rw [hl] at h0; exact h0.elim
        | nilv => rw [hl] at h0; exact h0.elim
      | vec e1 t1 l1 => exact repE_kill hd.stay hd.same (fun _ _ _ => rfl) h0
  ·have he2 : getE ((s.σ.filter fun p => !(p.1 == k)).map fun p => (p.1, match p.2 with | .box bt c => .box bt ((c.frz k t l).kill fun id => id == k) | e => e)) id = none := hid
   rw [getE_filter k (fun e => match e with | .box bt c => .box bt ((c.frz k t l).kill fun id => id == k) | e => e)] at he2
   by_cases hik : id = k
   ·subst hik; exact updL_same _ _ _
   ·rw [if_neg hik] at he2
    rw [updL_ne _ _ hik]
    refine H.dead id ?_
    cases hs : getE s.σ id with
    | none => rfl
    | some e0 => rw [hs] at he2; cases he2
 ·cases h
end
section
variable {P : Program} {X : Ctx} {n : Nat} {K : Ex → St → Prop} {s : St}
theorem Run.freeze {c : Code} {s' : St} (k : Nat) (h : s.freeze k = some s') (hr : Run P n c s' K) : Run P n c s K := by
 intro F ι a w H hG
 obtain ⟨ι', H', e'⟩ := freeze_sound h H
 refine wp_mono (hr F ι' a w H' (hG.ext e'.ext)) ?_
 rintro e a1 w1 ⟨x, s1, ι1, rfl, hK, H1, e1⟩
 exact ⟨x, s1, ι1, rfl, hK, H1, e'.trans e1⟩
def St.nilD (s : St) (t : Nat) (te : T) : Option St :=
 match getV s.Γ t with
 | .nil => some ⟨(t, .d (.sl te) []) :: s.Γ, s.σ⟩
 | _ => none
theorem Run.nilD {c : Code} {s' : St} (t : Nat) (te : T) (h : s.nilD t te = some s') (hr : Run P n c s' K) : Run P n c s K := by
 intro F ι a w H hG
 unfold St.nilD at h
 split at h
 ·rename_i hv
  obtain rfl := Option.some.inj h
  have H' : HoldsS F n ⟨(t, .d (.sl te) []) :: s.Γ, s.σ⟩ ι a w := by
   refine ⟨H.defers, H.size, fun i => ?_, H.ents, H.dead, H.inj, H.foreign⟩
   show repV _ _ _ (getV ((t, .d (.sl te) []) :: s.Γ) i) _
   rw [getV]
   split
   ·rename_i hi
    subst hi
    have := H.slots t
    rw [hv] at this
    have hn := repV_nil this
    rw [hn]
    refine ⟨[.slice none 0 0], ?_, rfl⟩
    rw [repC, rep]
    exact ⟨none, 0, rfl, Nat.le_refl _, by decide, fun h => absurd rfl h⟩
   ·exact H.slots i
  exact hr F ι a w H' hG
 ·cases h
def St.name (s : St) (t k e : Nat) (te : T) : Option St :=
 match getV s.Γ t, getE s.σ k with
 | .nil, none => some ⟨(t, .vec k te) :: s.Γ, (k, .vec e te []) :: s.σ⟩
 | _, _ => none
theorem Run.name {c : Code} {s' : St} (t k e : Nat) (te : T) (h : s.name t k e te = some s') (hr : Run P n c s' K) : Run P n c s K := by
 intro F ι a w H hG
 unfold St.name at h
 split at h
 ·rename_i hv hk
  obtain rfl := Option.some.inj h
  have ht := Turn.nilv H.mem hk e te
  have H' : HoldsS F n ⟨(t, .vec k te) :: s.Γ, (k, .vec e te []) :: s.σ⟩ (updL ι k .nilv) a w := by
   refine ⟨H.defers, H.size, fun i => ?_, ?_, ?_, ht.mem.inj, ht.mem.foreign⟩
   ·show repV _ _ _ (getV ((t, .vec k te) :: s.Γ) i) _
    rw [getV]
    split
    ·rename_i hi
     subst hi
     have := H.slots t
     rw [hv] at this
     have hn := repV_nil this
     rw [hn]
     refine ⟨[.slice none 0 0], ?_, rfl⟩
     rw [repC]
     exact .inl ⟨updL_same _ _ _, rfl⟩
    ·exact repV_same ht.stay ht.same (H.slots i)
   ·have : getE ((k, E.vec e te []) :: s.σ) = updE (getE s.σ) k (some (.vec e te [])) := getE_cons _ _ _
    rw [this]
    exact ht.mem.ents
   ·have : getE ((k, E.vec e te []) :: s.σ) = updE (getE s.σ) k (some (.vec e te [])) := getE_cons _ _ _
    rw [this]
    exact ht.mem.dead
  refine wp_mono (hr F _ a w H' (hG.ext ht.ext)) ?_
  rintro e a1 w1 ⟨x, s1, ι1, rfl, hK, H1, e1⟩
  exact ⟨x, s1, ι1, rfl, hK, H1, ExtA.trans ⟨ht.ext, ht.same.weak fun _ _ => rfl⟩ e1⟩
 ·cases h
def St.nameB (s : St) (b i k e : Nat) (te : T) : Option St :=
 match getE s.σ b, getE s.σ k with
 | some (.box bt c), none => (setNil (.vec k te) c i).map fun c' => ⟨s.Γ, (k, .vec e te []) :: (s.σ.map fun p => (p.1, if p.1 = b then .box bt c' else p.2))⟩
 | _, _ => none
theorem getE_repl (b : Nat) (x : E) : ∀ (σ : List (Nat × E)) (id : Nat), getE (σ.map fun p => (p.1, if p.1 = b then x else p.2)) id = if id = b then (getE σ id).map fun _ => x else getE σ id := by
 intro σ
 induction σ with
 | nil => intro id; simp [getE]
 | cons p σ ih =>
   intro id
   obtain ⟨k, e⟩ := p
   simp only [List.map_cons, getE]
   by_cases h : k = id
   ·subst h
    by_cases h2 : k = b <;> simp [h2]
   ·rw [if_neg h, if_neg h, ih]
theorem Run.nameB {c : Code} {s' : St} (b i k e : Nat) (te : T) (h : s.nameB b i k e te = some s') (hr : Run P n c s' K) : Run P n c s K := by
 intro F ι a w H hG
 unfold St.nameB at h
 split at h
 ·rename_i bt cb hb hk
  cases hz : setNil (.vec k te) cb i with
  | none => rw [hz] at h; cases h
  | some c' =>
    rw [hz] at h
    obtain rfl := Option.some.inj h
    have ht := Turn.nilv H.mem hk e te
    have hkb : k ≠ b := fun e => by subst e; rw [hb] at hk; cases hk
    have hσ : ∀ id, getE ((k, .vec e te []) :: (s.σ.map fun p => (p.1, if p.1 = b then E.box bt c' else p.2))) id = if id = k then some (.vec e te []) else if id = b then some (.box bt c') else getE s.σ id := by
     intro id
     rw [getE, getE_repl]
     by_cases h : id = k
     ·rw [if_pos h, if_pos h.symm]
     ·rw [if_neg h, if_neg (fun e => h e.symm)]
      by_cases h2 : id = b
      ·subst h2; rw [if_pos rfl, if_pos rfl, hb]; rfl
      ·rw [if_neg h2, if_neg h2]
    have H' : HoldsS F n ⟨s.Γ, (k, .vec e te []) :: (s.σ.map fun p => (p.1, if p.1 = b then E.box bt c' else p.2))⟩ (updL ι k .nilv) a w := by
     refine ⟨H.defers, H.size, fun t => repV_same ht.stay ht.same (H.slots t), fun id e' he => ?_, fun id hid => ?_, ht.mem.inj, ht.mem.foreign⟩
     ·rw [hσ] at he
      by_cases h1 : id = k
      ·subst h1
       rw [if_pos rfl] at he
       obtain rfl := Option.some.inj he
       exact ht.mem.ents id _ (updE_same _ _ _)
      ·rw [if_neg h1] at he
       by_cases h2 : id = b
       ·subst h2
        rw [if_pos rfl] at he
        obtain rfl := Option.some.inj he
        have h0 := H.ents id _ hb
        rw [updL_ne _ _ h1]
        cases hl : ι id with
        | blk B m =>
          rw [hl] at h0
          obtain ⟨arr, q1, q2⟩ := h0
          exact ⟨arr, q1, setNil_sound ht.stay ht.same (updL_same _ _ _) hz q2⟩
        | dead => rw [hl] at h0; exact h0.elim
        | nilv => rw [hl] at h0; exact h0.elim
       ·rw [if_neg h2] at he
        exact ht.mem.ents id _ (by rw [updE_ne _ _ h1]; exact he)
     ·rw [hσ] at hid
      by_cases h1 : id = k
      ·rw [if_pos h1] at hid; cases hid
      ·rw [if_neg h1] at hid
       by_cases h2 : id = b
       ·rw [if_pos h2] at hid; cases hid
       ·rw [if_neg h2] at hid
        exact ht.mem.dead id (by rw [updE_ne _ _ h1]; exact hid)
    refine wp_mono (hr F _ a w H' (hG.ext ht.ext)) ?_
    rintro e a1 w1 ⟨x, s1, ι1, rfl, hK, H1, e1⟩
    exact ⟨x, s1, ι1, rfl, hK, H1, ExtA.trans ⟨ht.ext, ht.same.weak fun _ _ => rfl⟩ e1⟩
 ·cases h
def evRes (X : Ctx) (s : St) : List ResultVar → List TypeId → Option (List V)
 | [], _ => some []
 | .tmp t :: rs, ty :: tys => (evRes X s rs tys).map fun l => coeArg X ty (getV s.Γ t) :: l
 | .cell t ty' :: rs, _ :: tys => (evLoad X (getE s.σ) ty' (getV s.Γ t)).bind fun o => if o.c.isEmpty then (evRes X s rs tys).map fun l => o.v :: l else none
 | _, _ => none
def chainOf : List V → V
 | [] => .vnil
 | v :: vs => .vcons v (chainOf vs)
def okRes : V → Bool
 | .un | .tup _ | .vnil | .vcons _ _ => false
 | _ => true
def resV (l : List V) : Option V :=
 match l with
 | [v] => if okRes v = true then some v else none
 | l => if l.all okRes = true then some (.tup (chainOf l)) else none
theorem run_results (hT : TyOk P X) {F : Nat → Prop} {ι : Nat → Loc} {a : Act} {w : World} (H : HoldsS F n s ι a w) : ∀ {rs : List ResultVar} {tys : List TypeId} {l : List V}, evRes X s rs tys = some l →
 ∃ us : List Value, ((rs.mapM fun (r : ResultVar) => (match r with | .tmp t => pure (a.tmps.getD t undef) | .cell c t => do loadVar t (← asAddr (a.tmps.getD c undef)) : Sem Value)).run P w = .ok us w) ∧ ArgsRep (Imm F ι w) ι w l us := by
 intro rs
 induction rs with
 | nil => intro tys l h; obtain rfl := Option.some.inj h; exact ⟨[], by simp, trivial⟩
 | cons r rs ih =>
   intro tys l h
   cases tys with
   | nil => cases r <;> cases h
   | cons ty tys =>
     cases r with
     | tmp t =>
       rw [evRes] at h
       cases hl : evRes X s rs tys with
       | none => rw [hl] at h; cases h
       | some l' =>
         rw [hl] at h
         obtain rfl := Option.some.inj h
         obtain ⟨us, h1, h2⟩ := ih hl
         refine ⟨a.tmps.getD t undef :: us, ?_, coeArg_sound (H.slots t), h2⟩
         simp only [List.mapM_cons, Sem.run_bind, Sem.run_pure, Result.andThen_ok, h1]
     | cell c t =>
       rw [evRes] at h
       cases ho : evLoad X (getE s.σ) t (getV s.Γ c) with
       | none => rw [ho] at h; cases h
       | some o =>
         rw [ho, Option.bind_some] at h
         split at h
         ·rename_i hc
          cases hl : evRes X s rs tys with
          | none => rw [hl] at h; cases h
          | some l' =>
            rw [hl] at h
            obtain rfl := Option.some.inj h
            obtain ⟨us, h1, h2⟩ := ih hl
            have hc' : AllTrue o.c := by
             have : o.c = [] := List.isEmpty_iff.1 hc
             rw [this]; trivial
            obtain ⟨_, _, u, hr, hu⟩ := evLoad_sound hT H.mem ho hc' (H.slots c)
            refine ⟨u :: us, ?_, hu, h2⟩
            have hr' : ((do loadVar t (← asAddr (a.tmps.getD c undef)) : Sem Value)).run P w = .ok u w := by
             unfold Instr.loadAt at hr
             have : ∃ ad, a.tmps.getD c undef = .pointer (some ad) := by
              cases hv : a.tmps.getD c undef <;> rw [hv] at hr <;> first
               | (simp [Instr.sureAddr] at hr; done)
               | (rename_i p; cases p with | none => simp [Instr.sureAddr] at hr | some ad => exact ⟨ad, rfl⟩)
             obtain ⟨ad, had⟩ := this
             rw [had] at hr ⊢
             simpa [Instr.sureAddr, asAddr] using hr
            simp only [List.mapM_cons, Sem.run_bind, hr', Sem.run_pure, Result.andThen_ok, h1]
         ·cases h
theorem resV_sound {I : Nat → Prop} {ι : Nat → Loc} {w : World} {l : List V} {r : V} (h : resV l = some r) {us : List Value} (hr : ArgsRep I ι w l us) :
 repV I ι w r (if h : us.toArray.size = 1 then us.toArray[0] else .tuple us.toArray) := by
 have hlen : ∀ {l : List V} {us : List Value}, ArgsRep I ι w l us → l.length = us.length := by
  intro l
  induction l with
  | nil => intro us h; cases us with | nil => rfl | cons _ _ => exact h.elim
  | cons x xs ih => intro us h; cases us with | nil => exact h.elim | cons u us => simp [ih h.2]
 have chain : ∀ {l : List V} {us : List Value}, l.all okRes = true → ArgsRep I ι w l us → repT I ι w (chainOf l) us := by
  intro l
  induction l with
  | nil => intro us _ h; cases us with | nil => rfl | cons _ _ => exact h.elim
  | cons x xs ih =>
    intro us ha h
    rw [List.all_cons, Bool.and_eq_true] at ha
    cases us with
    | nil => exact h.elim
    | cons u us =>
      rw [chainOf, repT]
      refine ⟨u, us, rfl, ?_, ih ha.2 h.2⟩
      cases x <;> first | (cases ha.1; done) | exact h.1
 unfold resV at h
 split at h
 ·rename_i v
  split at h
  ·obtain rfl := Option.some.inj h
   have hl := hlen hr
   match us, hl with
   | [u], _ => simpa using hr.1
  ·cases h
 ·rename_i hne
  split at h
  ·rename_i ha
   obtain rfl := Option.some.inj h
   have hl := hlen hr
   rw [dif_neg]
   ·exact ⟨_, rfl, by simpa using chain ha hr⟩
   ·intro h1
    have h1' : us.length = 1 := by simpa using h1
    match l, hl.trans h1' with
    | [v], _ => exact hne v rfl
  ·cases h
def args0 : Nat → List V → List (Nat × V)
 | _, [] => []
 | i, v :: vs => (i, v) :: args0 (i + 1) vs
def St.enter (args : List V) : St := ⟨args0 0 args, []⟩
def endK (X : Ctx) (rs : List ResultVar) (tys : List TypeId) (r : V) : Ex → St → Prop
 | .out _, _ => False
 | _, s => ∃ l, evRes X s rs tys = some l ∧ resV l = some r
theorem callPure_of_run (hT : TyOk P X) {f : FuncId} {fn : Func} {c : Code} (hf : P.funcs[f]? = some fn) (hb : fn.body = some c) {args : List V} {r : V} (hn : args.length ≤ fn.ntmps) (hpa : args.all V.pure = true) (hp : r.pure = true)
 {tys : List TypeId} (h : Run P fn.ntmps c (St.enter args) (endK X fn.results.toList tys r)) : CallPure P f args r := by
 intro F w vals hF hG hargs
 have hlen : ∀ {l : List V} {us : List Value} {I : Nat → Prop} {ι : Nat → Loc}, ArgsRep I ι w l us → l.length = us.length := by
  intro l
  induction l with
  | nil => intro us I ι h; cases us with | nil => rfl | cons _ _ => exact h.elim
  | cons x xs ih => intro us I ι h; cases us with | nil => exact h.elim | cons u us => simp [ih h.2]
 have hl := hlen hargs
 have slots : ∀ {l : List V} {us : List Value} {i : Nat} {I : Nat → Prop} {ι : Nat → Loc}, ArgsRep I ι w l us → ∀ t, repV I ι w (getV (args0 i l) t) (if i ≤ t then us.getD (t - i) undef else undef) := by
  intro l
  induction l with
  | nil => intro us i I ι h t; trivial
  | cons x xs ih =>
    intro us i I ι h t
    cases us with
    | nil => exact h.elim
    | cons u us =>
      rw [args0, getV]
      split
      ·rename_i hi; subst hi; simpa using h.1
      ·rename_i hi
       have := ih h.2 (i := i + 1) t
       by_cases hit : i + 1 ≤ t
       ·rw [if_pos hit] at this
        rw [if_pos (by omega)]
        have e : t - i = (t - (i + 1)) + 1 := by omega
        rw [e]
        simpa using this
       ·rw [if_neg hit] at this
        rw [if_neg (by omega)]
        exact this
 refine calls_of_wp hf hb ?_
 have H : HoldsS F fn.ntmps (St.enter args) dead { tmps := vals.toArray ++ Array.replicate (fn.ntmps - vals.toArray.size) undef, defers := [] } w := by
  refine ⟨rfl, by simp; omega, fun t => ?_, fun id e he => (by cases he), fun id _ => rfl, fun id id' B m m' h => (by cases h), fun b hb => ⟨hF b hb, fun id m h => (by cases h)⟩⟩
  have := slots hargs (i := 0) t
  simp only [Nat.zero_le, if_true, Nat.sub_zero] at this
  have e : (vals.toArray ++ Array.replicate (fn.ntmps - vals.toArray.size) undef).getD t undef = vals.getD t undef := by
   simp only [Array.getD_eq_getD_getElem?, Array.getElem?_append, List.size_toArray, List.getD_eq_getElem?_getD]
   by_cases ht : t < vals.length
   ·simp [ht]
   ·rw [if_neg ht, List.getElem?_eq_none (by omega)]
    by_cases ht2 : t - vals.length < fn.ntmps - vals.length
    ·simp [ht2]
    ·simp [Array.getElem?_eq_none, ht2]
  rw [e]
  exact this
 refine wp_mono (h F dead _ w H hG) ?_
 rintro e a1 w1 ⟨x, s1, ι1, rfl, hK, H1, e1⟩
 have fin : ∀ {l}, evRes X s1 fn.results.toList tys = some l → resV l = some r → a1.defers = [] ∧ ∃ v, (results fn a1.tmps).run P w1 = .ok v w1 ∧
  ∃ v', Ending.returned v = Ending.returned v' ∧ repV (Imm F dead w1) dead w1 r v' ∧ Ext dead w dead w1 := by
  intro l h1 h2
  obtain ⟨us, hr, hu⟩ := run_results hT H1 h1
  have hres := resV_sound h2 hu
  refine ⟨H1.defers, (if h : us.toArray.size = 1 then us.toArray[0] else .tuple us.toArray), ?_, _, rfl, ?_, ⟨e1.ext.os, e1.ext.tape, e1.ext.output, e1.ext.size, e1.ext.keep, fun id B m h => (by cases h)⟩⟩
  ·unfold results
   have hr' : (fn.results.mapM fun (r : ResultVar) => (match r with | .tmp t => pure (a1.tmps.getD t undef) | .cell c t => do loadVar t (← asAddr (a1.tmps.getD c undef)) : Sem Value)).run P w1 = .ok us.toArray w1 := by
    have : fn.results = fn.results.toList.toArray := by simp
    rw [this, List.mapM_toArray]
    simp only [Sem.run_map, hr, Result.andThen_ok]
   simp only [Sem.run_bind, Sem.run_pure]
   erw [hr']
   rfl
  ·refine repV_pure ⟨fun b hb => ⟨hb.1, hb.2.1, fun id m h => by cases h⟩, fun _ _ _ _ h => h⟩ hp hres
 cases x with
 | out id => exact hK.elim
 | nrm => obtain ⟨l, h1, h2⟩ := hK; exact fin h1 h2
 | ret => obtain ⟨l, h1, h2⟩ := hK; exact fin h1 h2
def endO (X : Ctx) (rs : List ResultVar) (el : Nat) (te : T) (l : List te.D) : Ex → St → Prop
 | .out _, _ => False
 | _, s => ∃ t k, rs = [.tmp t] ∧ s.keep [t] [k] = some ⟨[(t, .vec k te)], [(k, .vec el te l)]⟩
theorem callOwn_of_run (hT : TyOk P X) {f : FuncId} {fn : Func} {c : Code} (hf : P.funcs[f]? = some fn) (hb : fn.body = some c) {args : List V} {el : Nat} {te : T} {l : List te.D} (hn : args.length ≤ fn.ntmps)
 (h : Run P fn.ntmps c (St.enter args) (endO X fn.results.toList el te l)) : CallOwn P f args el te l := by
 intro F w vals hF hG hargs
 have hlen : ∀ {l : List V} {us : List Value} {I : Nat → Prop} {ι : Nat → Loc}, ArgsRep I ι w l us → l.length = us.length := by
  intro l
  induction l with
  | nil => intro us I ι h; cases us with | nil => rfl | cons _ _ => exact h.elim
  | cons x xs ih => intro us I ι h; cases us with | nil => exact h.elim | cons u us => simp [ih h.2]
 have hl := hlen hargs
 have slots : ∀ {l : List V} {us : List Value} {i : Nat} {I : Nat → Prop} {ι : Nat → Loc}, ArgsRep I ι w l us → ∀ t, repV I ι w (getV (args0 i l) t) (if i ≤ t then us.getD (t - i) undef else undef) := by
  intro l
  induction l with
  | nil => intro us i I ι h t; trivial
  | cons x xs ih =>
    intro us i I ι h t
    cases us with
    | nil => exact h.elim
    | cons u us =>
      rw [args0, getV]
      split
      ·rename_i hi; subst hi; simpa using h.1
      ·rename_i hi
       have := ih h.2 (i := i + 1) t
       by_cases hit : i + 1 ≤ t
       ·rw [if_pos hit] at this
        rw [if_pos (by omega)]
        have e : t - i = (t - (i + 1)) + 1 := by omega
        rw [e]
        simpa using this
       ·rw [if_neg hit] at this
        rw [if_neg (by omega)]
        exact this
 refine calls_of_wp hf hb ?_
 have H : HoldsS F fn.ntmps (St.enter args) dead0 { tmps := vals.toArray ++ Array.replicate (fn.ntmps - vals.toArray.size) undef, defers := [] } w := by
  refine ⟨rfl, by simp; omega, fun t => ?_, fun id e he => (by cases he), fun id _ => rfl, fun id id' B m m' h => (by cases h), fun b hb => ⟨hF b hb, fun id m h => (by cases h)⟩⟩
  have := slots hargs (i := 0) t
  simp only [Nat.zero_le, if_true, Nat.sub_zero] at this
  have e : (vals.toArray ++ Array.replicate (fn.ntmps - vals.toArray.size) undef).getD t undef = vals.getD t undef := by
   simp only [Array.getD_eq_getD_getElem?, Array.getElem?_append, List.size_toArray, List.getD_eq_getElem?_getD]
   by_cases ht : t < vals.length
   ·simp [ht]
   ·rw [if_neg ht, List.getElem?_eq_none (by omega)]
    by_cases ht2 : t - vals.length < fn.ntmps - vals.length
    ·simp [ht2]
    ·simp [Array.getElem?_eq_none, ht2]
  rw [e]
  exact this
 refine wp_mono (h F dead0 _ w H hG) ?_
 rintro e a1 w1 ⟨x, s1, ι1, rfl, hK, H1, e1⟩
 have fin : ∀ {t k : Nat}, fn.results.toList = [.tmp t] → s1.keep [t] [k] = some ⟨[(t, .vec k te)], [(k, .vec el te l)]⟩ → a1.defers = [] ∧ ∃ v, (results fn a1.tmps).run P w1 = .ok v w1 ∧
  ∃ v' ι', Ending.returned v = Ending.returned v' ∧ repV (Imm F ι' w1) ι' w1 (.vec 0 te) v' ∧ HoldsE F (updE none1 0 (some (.vec el te l))) ι' w1 ∧ Ext dead0 w ι' w1 := by
  intro t k hrs hkp
  obtain ⟨ι2, H2, e2⟩ := keep_sound hkp H1
  have hev : evRes X ⟨[(t, V.vec k te)], [(k, .vec el te l)]⟩ [.tmp t] [0] = some [coeArg X 0 (.vec k te)] := by simp [evRes, getV]
  have hco : coeArg X 0 (V.vec k te) = .vec k te := by unfold coeArg; rfl
  rw [hco] at hev
  obtain ⟨us, hr, hu⟩ := run_results hT H2 hev
  have hσ : ∀ id, getE [(k, E.vec el te l)] id = if id = k then some (.vec el te l) else none := by
   intro id
   simp only [getE]
   by_cases h : k = id
   ·subst h; simp
   ·rw [if_neg h, if_neg (fun e => h e.symm)]
  have hdead : ∀ id, id ≠ k → ι2 id = .dead := fun id h => H2.dead id (by show getE [(k, E.vec el te l)] id = none; rw [hσ, if_neg h])
  have himm : ∀ b, Imm F (fun c => if c = 0 then ι2 k else Loc.dead) w1 b ↔ Imm F ι2 w1 b := by
   intro b
   unfold Imm
   constructor
   ·rintro ⟨q1, q2, q3⟩
    refine ⟨q1, q2, fun id n hid => ?_⟩
    by_cases h : id = k
    ·subst h; exact q3 0 n (by simpa using hid)
    ·rw [hdead id h] at hid; cases hid
   ·rintro ⟨q1, q2, q3⟩
    refine ⟨q1, q2, fun id n hid => ?_⟩
    by_cases h : id = 0
    ·subst h; exact q3 k n (by simpa using hid)
    ·simp [h] at hid
  match us, hu with
  | [u], hu =>
    refine ⟨H1.defers, u, ?_, u, fun c => if c = 0 then ι2 k else Loc.dead, rfl, ?_, ⟨fun id e he => ?_, fun id hid => ?_, fun id id' B n n' h1 h2 => ?_, fun b hb => ?_⟩, ?_⟩
    ·unfold results
     have hr' : (fn.results.mapM fun (r : ResultVar) => (match r with | .tmp t => pure (a1.tmps.getD t undef) | .cell c t => do loadVar t (← asAddr (a1.tmps.getD c undef)) : Sem Value)).run P w1 = .ok [u].toArray w1 := by
      have : fn.results = fn.results.toList.toArray := by simp
      rw [this, List.mapM_toArray, hrs]
      simp only [Sem.run_map, hr, Result.andThen_ok]
     simp only [Sem.run_bind, Sem.run_pure]
     erw [hr']
     rfl
    ·obtain ⟨cs, q1, q2⟩ := hu.1
     refine ⟨cs, ?_, q2⟩
     rw [repC] at q1 ⊢
     simpa using q1
    ·by_cases h : id = 0
     ·subst h
      rw [updE_same] at he
      obtain rfl := Option.some.inj he
      have h0 := H2.ents k _ (by show getE [(k, E.vec el te l)] k = _; rw [hσ, if_pos rfl])
      simp only [if_true]
      have key : ∀ L, L = ι2 k → repE (Imm F (fun c => if c = 0 then ι2 k else Loc.dead) w1) (fun c => if c = 0 then ι2 k else Loc.dead) w1 (.vec el te l) L := by
       intro L hL
       rw [← hL] at h0
       cases L with
       | blk B n =>
         obtain ⟨hn', arr, es, q1, q2, ha, hq⟩ := h0
         exact ⟨hn', arr, es, q1, q2, ha, repL_mono (fun _ _ hq => rep_stay ⟨fun b hb => (himm b).2 hb, fun _ _ _ _ h => h⟩ hq) hq⟩
       | nilv => exact h0
       | dead => exact h0.elim
      exact key _ rfl
     ·rw [updE_ne _ _ h] at he; cases he
    ·by_cases h : id = 0
     ·subst h; rw [updE_same] at hid; cases hid
     ·simp [h]
    ·by_cases h : id = 0 <;> by_cases h' : id' = 0 <;> simp [h, h'] at h1 h2 ⊢
    ·obtain ⟨q1, q2⟩ := H2.foreign b hb
     refine ⟨q1, fun id n hid => ?_⟩
     by_cases h : id = 0
     ·subst h; exact q2 k n (by simpa using hid)
     ·simp [h] at hid
    ·have e3 := e1.trans e2
     refine ⟨e3.ext.os, e3.ext.tape, e3.ext.output, e3.ext.size, e3.ext.keep, fun id B n hid => ?_⟩
     by_cases h : id = 0
     ·subst h; exact e3.ext.new k B n (by simpa using hid)
     ·simp [h] at hid
  | [], hu => exact hu.elim
  | _ :: _ :: _, hu => exact hu.2.elim
 cases x with
 | out id => exact hK.elim
 | nrm => obtain ⟨t, k, h1, h2⟩ := hK; exact fin h1 h2
 | ret => obtain ⟨t, k, h1, h2⟩ := hK; exact fin h1 h2
def endS (X : Ctx) (rs : List ResultVar) (tys : List TypeId) (r : V) (σo : List (Nat × E)) : Ex → St → Prop
 | .out _, _ => False
 | _, s => ∃ l s', evRes X s rs tys = some l ∧ resV l = some r ∧ s.keep [] (σo.map (·.1)) = some s' ∧ s'.σ = σo
theorem callSt_of_run (hT : TyOk P X) {f : FuncId} {fn : Func} {c : Code} (hf : P.funcs[f]? = some fn) (hb : fn.body = some c) {args : List V} {σi : List (Nat × E)} {r : V} {σo : List (Nat × E)} (hn : args.length ≤ fn.ntmps) (hp : r.pure = true)
 {tys : List TypeId} (h : Run P fn.ntmps c ⟨args0 0 args, σi⟩ (endS X fn.results.toList tys r σo)) : CallSt P f args σi r σo := by
 intro F ι w vals hF hG hargs
 have hlen : ∀ {l : List V} {us : List Value} {I : Nat → Prop} {ι : Nat → Loc}, ArgsRep I ι w l us → l.length = us.length := by
  intro l
  induction l with
  | nil => intro us I ι h; cases us with | nil => rfl | cons _ _ => exact h.elim
  | cons x xs ih => intro us I ι h; cases us with | nil => exact h.elim | cons u us => simp [ih h.2]
 have hl := hlen hargs
 have slots : ∀ {l : List V} {us : List Value} {i : Nat} {I : Nat → Prop} {ι : Nat → Loc}, ArgsRep I ι w l us → ∀ t, repV I ι w (getV (args0 i l) t) (if i ≤ t then us.getD (t - i) undef else undef) := by
  intro l
  induction l with
  | nil => intro us i I ι h t; trivial
  | cons x xs ih =>
    intro us i I ι h t
    cases us with
    | nil => exact h.elim
    | cons u us =>
      rw [args0, getV]
      split
      ·rename_i hi; subst hi; simpa using h.1
      ·rename_i hi
       have := ih h.2 (i := i + 1) t
       by_cases hit : i + 1 ≤ t
       ·rw [if_pos hit] at this
        rw [if_pos (by omega)]
        have e : t - i = (t - (i + 1)) + 1 := by omega
        rw [e]
        simpa using this
       ·rw [if_neg hit] at this
        rw [if_neg (by omega)]
        exact this
 refine calls_of_wp hf hb ?_
 have H : HoldsS F fn.ntmps ⟨args0 0 args, σi⟩ ι { tmps := vals.toArray ++ Array.replicate (fn.ntmps - vals.toArray.size) undef, defers := [] } w := by
  refine ⟨rfl, by simp; omega, fun t => ?_, hF.ents, hF.dead, hF.inj, hF.foreign⟩
  have := slots hargs (i := 0) t
  simp only [Nat.zero_le, if_true, Nat.sub_zero] at this
  have e : (vals.toArray ++ Array.replicate (fn.ntmps - vals.toArray.size) undef).getD t undef = vals.getD t undef := by
   simp only [Array.getD_eq_getD_getElem?, Array.getElem?_append, List.size_toArray, List.getD_eq_getElem?_getD]
   by_cases ht : t < vals.length
   ·simp [ht]
   ·rw [if_neg ht, List.getElem?_eq_none (by omega)]
    by_cases ht2 : t - vals.length < fn.ntmps - vals.length
    ·simp [ht2]
    ·simp [Array.getElem?_eq_none, ht2]
  rw [e]
  exact this
 refine wp_mono (h F ι _ w H hG) ?_
 rintro e a1 w1 ⟨x, s1, ι1, rfl, hK, H1, e1⟩
 have fin : ∀ {l s'}, evRes X s1 fn.results.toList tys = some l → resV l = some r → s1.keep [] (σo.map (·.1)) = some s' → s'.σ = σo → a1.defers = [] ∧ ∃ v, (results fn a1.tmps).run P w1 = .ok v w1 ∧
  ∃ v' ι', Ending.returned v = Ending.returned v' ∧ repV (Imm F ι' w1) ι' w1 r v' ∧ HoldsE F (getE σo) ι' w1 ∧ ExtA ι w ι' w1 := by
  intro l s' h1 h2 h3 h4
  obtain ⟨us, hr, hu⟩ := run_results hT H1 h1
  have hres := resV_sound h2 hu
  obtain ⟨ι2, H2, e2⟩ := keep_sound h3 H1
  refine ⟨H1.defers, (if h : us.toArray.size = 1 then us.toArray[0] else .tuple us.toArray), ?_, _, ι2, rfl, ?_, by rw [← h4]; exact H2.mem, e1.trans e2⟩
  ·unfold results
   have hr' : (fn.results.mapM fun (r : ResultVar) => (match r with | .tmp t => pure (a1.tmps.getD t undef) | .cell c t => do loadVar t (← asAddr (a1.tmps.getD c undef)) : Sem Value)).run P w1 = .ok us.toArray w1 := by
    have : fn.results = fn.results.toList.toArray := by simp
    rw [this, List.mapM_toArray]
    simp only [Sem.run_map, hr, Result.andThen_ok]
   simp only [Sem.run_bind, Sem.run_pure]
   erw [hr']
   rfl
  ·refine repV_pure ⟨fun b hb => ⟨hb.1, hb.2.1, fun id m hid => ?_⟩, fun _ _ _ _ h => h⟩ hp hres
   rcases e2.ext.new id b m hid with ⟨id0, n0, h0⟩ | h0
   ·exact hb.2.2 id0 n0 h0
   ·have := hb.1; omega
 cases x with
 | out id => exact hK.elim
 | nrm => obtain ⟨l, s', h1, h2, h3, h4⟩ := hK; exact fin h1 h2 h3 h4
 | ret => obtain ⟨l, s', h1, h2, h3, h4⟩ := hK; exact fin h1 h2 h3 h4
def endR (X : Ctx) (rs : List ResultVar) (tys : List TypeId) (r : V) (σo : List (Nat × E)) : Ex → St → Prop
 | .out _, _ => False
 | _, s => ∃ l s', evRes X s rs tys = some l ∧ (resV l).map (V.kill fun id => !(σo.map (·.1)).contains id) = some r ∧ s.keep [] (σo.map (·.1)) = some s' ∧ s'.σ = σo
theorem callSt_of_runR (hT : TyOk P X) {f : FuncId} {fn : Func} {c : Code} (hf : P.funcs[f]? = some fn) (hb : fn.body = some c) {args : List V} {σi : List (Nat × E)} {r : V} {σo : List (Nat × E)} (hn : args.length ≤ fn.ntmps)
 {tys : List TypeId} (h : Run P fn.ntmps c ⟨args0 0 args, σi⟩ (endR X fn.results.toList tys r σo)) : CallSt P f args σi r σo := by
 intro F ι w vals hF hG hargs
 have hlen : ∀ {l : List V} {us : List Value} {I : Nat → Prop} {ι : Nat → Loc}, ArgsRep I ι w l us → l.length = us.length := by
  intro l
  induction l with
  | nil => intro us I ι h; cases us with | nil => rfl | cons _ _ => exact h.elim
  | cons x xs ih => intro us I ι h; cases us with | nil => exact h.elim | cons u us => simp [ih h.2]
 have hl := hlen hargs
 have slots : ∀ {l : List V} {us : List Value} {i : Nat} {I : Nat → Prop} {ι : Nat → Loc}, ArgsRep I ι w l us → ∀ t, repV I ι w (getV (args0 i l) t) (if i ≤ t then us.getD (t - i) undef else undef) := by
  intro l
  induction l with
  | nil => intro us i I ι h t; trivial
  | cons x xs ih =>
    intro us i I ι h t
    cases us with
    | nil => exact h.elim
    | cons u us =>
      rw [args0, getV]
      split
      ·rename_i hi; subst hi; simpa using h.1
      ·rename_i hi
       have := ih h.2 (i := i + 1) t
       by_cases hit : i + 1 ≤ t
       ·rw [if_pos hit] at this
        rw [if_pos (by omega)]
        have e : t - i = (t - (i + 1)) + 1 := by omega
        rw [e]
        simpa using this
       ·rw [if_neg hit] at this
        rw [if_neg (by omega)]
        exact this
 refine calls_of_wp hf hb ?_
 have H : HoldsS F fn.ntmps ⟨args0 0 args, σi⟩ ι { tmps := vals.toArray ++ Array.replicate (fn.ntmps - vals.toArray.size) undef, defers := [] } w := by
  refine ⟨rfl, by simp; omega, fun t => ?_, hF.ents, hF.dead, hF.inj, hF.foreign⟩
  have := slots hargs (i := 0) t
  simp only [Nat.zero_le, if_true, Nat.sub_zero] at this
  have e : (vals.toArray ++ Array.replicate (fn.ntmps - vals.toArray.size) undef).getD t undef = vals.getD t undef := by
   simp only [Array.getD_eq_getD_getElem?, Array.getElem?_append, List.size_toArray, List.getD_eq_getElem?_getD]
   by_cases ht : t < vals.length
   ·simp [ht]
   ·rw [if_neg ht, List.getElem?_eq_none (by omega)]
    by_cases ht2 : t - vals.length < fn.ntmps - vals.length
    ·simp [ht2]
    ·simp [Array.getElem?_eq_none, ht2]
  rw [e]
  exact this
 refine wp_mono (h F ι _ w H hG) ?_
 rintro e a1 w1 ⟨x, s1, ι1, rfl, hK, H1, e1⟩
 have fin : ∀ {l s'}, evRes X s1 fn.results.toList tys = some l → (resV l).map (V.kill fun id => !(σo.map (·.1)).contains id) = some r → s1.keep [] (σo.map (·.1)) = some s' → s'.σ = σo → a1.defers = [] ∧ ∃ v, (results fn a1.tmps).run P w1 = .ok v w1 ∧
  ∃ v' ι', Ending.returned v = Ending.returned v' ∧ repV (Imm F ι' w1) ι' w1 r v' ∧ HoldsE F (getE σo) ι' w1 ∧ ExtA ι w ι' w1 := by
  intro l s' h1 h2 h3 h4
  obtain ⟨us, hr, hu⟩ := run_results hT H1 h1
  cases hq : resV l with
  | none => rw [hq] at h2; cases h2
  | some r0 =>
  rw [hq] at h2
  obtain rfl := Option.some.inj h2
  have hres := resV_sound hq hu
  obtain ⟨ι2, H2, e2, hv2⟩ := keep_soundV h3 H1
  refine ⟨H1.defers, (if h : us.toArray.size = 1 then us.toArray[0] else .tuple us.toArray), ?_, _, ι2, rfl, ?_, by rw [← h4]; exact H2.mem, e1.trans e2⟩
  ·unfold results
   have hr' : (fn.results.mapM fun (r : ResultVar) => (match r with | .tmp t => pure (a1.tmps.getD t undef) | .cell c t => do loadVar t (← asAddr (a1.tmps.getD c undef)) : Sem Value)).run P w1 = .ok us.toArray w1 := by
    have : fn.results = fn.results.toList.toArray := by simp
    rw [this, List.mapM_toArray]
    simp only [Sem.run_map, hr, Result.andThen_ok]
   simp only [Sem.run_bind, Sem.run_pure]
   erw [hr']
   rfl
  ·exact hv2 _ _ hres
 cases x with
 | out id => exact hK.elim
 | nrm => obtain ⟨l, s', h1, h2, h3, h4⟩ := hK; exact fin h1 h2 h3 h4
 | ret => obtain ⟨l, s', h1, h2, h3, h4⟩ := hK; exact fin h1 h2 h3 h4
end
end Go.Sw

namespace Go.Sw
structure Tr where
 ds : List (Nat × V)
 us : List (Nat × E)
def updVs (γ : Nat → V) : List (Nat × V) → (Nat → V)
 | [] => γ
 | (d, v) :: r => updVs (fun t => if d = t then v else γ t) r
def gam (γ : Nat → V) (tr : Nat → Tr) (S : Nat → Bool) : Nat → (Nat → V)
 | 0 => γ
 | i + 1 => if S i = true then updVs (gam γ tr S i) (tr i).ds else gam γ tr S i
def sig (σ : Nat → Option E) (tr : Nat → Tr) (S : Nat → Bool) : Nat → (Nat → Option E)
 | 0 => σ
 | i + 1 => if S i = true then updAll (sig σ tr S i) (tr i).us else sig σ tr S i
theorem updVs_ne {γ : Nat → V} : ∀ {ds : List (Nat × V)} {t : Nat}, t ∉ ds.map (·.1) → updVs γ ds t = γ t := by
 intro ds
 induction ds generalizing γ with
 | nil => intro t _; rfl
 | cons d ds ih =>
   intro t h
   obtain ⟨j, v⟩ := d
   simp at h
   rw [updVs, ih (by simpa using h.2), if_neg (fun e => h.1 e.symm)]
theorem updVs_in {γ γ' : Nat → V} : ∀ {ds : List (Nat × V)} {t : Nat}, t ∈ ds.map (·.1) → updVs γ ds t = updVs γ' ds t := by
 intro ds
 induction ds generalizing γ γ' with
 | nil => intro t h; simp at h
 | cons d ds ih =>
   intro t h
   obtain ⟨j, v⟩ := d
   rw [updVs, updVs]
   by_cases hin : t ∈ ds.map (·.1)
   ·exact ih hin
   ·rw [updVs_ne hin, updVs_ne hin]
    simp at h hin
    rcases h with h | ⟨x, h⟩
    ·subst h; simp
    ·exact absurd h (hin x)
theorem updVs_from {γ : Nat → V} : ∀ {ds : List (Nat × V)} {t : Nat}, updVs γ ds t = γ t ∨ (t, updVs γ ds t) ∈ ds := by
 intro ds
 induction ds generalizing γ with
 | nil => intro t; exact .inl rfl
 | cons d ds ih =>
   intro t
   obtain ⟨j, v⟩ := d
   rw [updVs]
   rcases ih (γ := fun t => if j = t then v else γ t) (t := t) with h | h
   ·by_cases hj : j = t
    ·subst hj
     right
     rw [h, if_pos rfl]
     simp
    ·left; rw [h, if_neg hj]
   ·exact .inr (List.mem_cons_of_mem _ h)
theorem updVs_app {γ : Nat → V} : ∀ {ds es : List (Nat × V)}, updVs γ (ds ++ es) = updVs (updVs γ ds) es := by
 intro ds
 induction ds generalizing γ with
 | nil => intro es; rfl
 | cons d ds ih => intro es; obtain ⟨j, v⟩ := d; rw [List.cons_append, updVs, updVs, ih]
theorem updAll_app {σ : Nat → Option E} : ∀ {us vs : List (Nat × E)}, updAll σ (us ++ vs) = updAll (updAll σ us) vs := by
 intro us
 induction us generalizing σ with
 | nil => intro vs; rfl
 | cons u us ih => intro vs; obtain ⟨j, e⟩ := u; rw [List.cons_append, updAll, updAll, ih]
theorem updAll_ne {σ : Nat → Option E} : ∀ {us : List (Nat × E)} {k : Nat}, k ∉ us.map (·.1) → updAll σ us k = σ k := by
 intro us
 induction us generalizing σ with
 | nil => intro k _; rfl
 | cons u us ih =>
   intro k h
   obtain ⟨j, e⟩ := u
   simp at h
   rw [updAll, ih (by simpa using h.2), updE_ne _ _ h.1]
theorem updAll_in {σ σ' : Nat → Option E} : ∀ {us : List (Nat × E)} {k : Nat}, k ∈ us.map (·.1) → updAll σ us k = updAll σ' us k := by
 intro us
 induction us generalizing σ σ' with
 | nil => intro k h; simp at h
 | cons u us ih =>
   intro k h
   obtain ⟨j, e⟩ := u
   rw [updAll, updAll]
   by_cases hin : k ∈ us.map (·.1)
   ·exact ih hin
   ·rw [updAll_ne hin, updAll_ne hin]
    simp at h hin
    rcases h with h | ⟨x, h⟩
    ·subst h; rw [updE_same, updE_same]
    ·exact absurd h (hin x)
theorem updAll_from {σ : Nat → Option E} : ∀ {us : List (Nat × E)} {k : Nat}, updAll σ us k = σ k ∨ ∃ e, updAll σ us k = some e ∧ (k, e) ∈ us := by
 intro us
 induction us generalizing σ with
 | nil => intro k; exact .inl rfl
 | cons u us ih =>
   intro k
   obtain ⟨j, e⟩ := u
   rw [updAll]
   rcases ih (σ := updE σ j (some e)) (k := k) with h | ⟨e', h, h'⟩
   ·by_cases hj : k = j
    ·subst hj
     exact .inr ⟨e, by rw [h, updE_same], by simp⟩
    ·exact .inl (by rw [h, updE_ne _ _ hj])
   ·exact .inr ⟨e', h, List.mem_cons_of_mem _ h'⟩
theorem gam_congr {γ : Nat → V} {tr : Nat → Tr} {S S' : Nat → Bool} {t : Nat} : ∀ (n : Nat), (∀ j, j < n → t ∈ (tr j).ds.map (·.1) → S j = S' j) → gam γ tr S n t = gam γ tr S' n t := by
 intro n
 induction n with
 | zero => intro _; rfl
 | succ n ih =>
   intro h
   have h1 := ih fun j hj => h j (by omega)
   rw [gam, gam]
   by_cases hw : t ∈ (tr n).ds.map (·.1)
   ·rw [h n (by omega) hw]
    split
    ·exact updVs_in hw
    ·exact h1
   ·split <;> split <;> simp only [updVs_ne hw, h1]
theorem sig_congr {σ : Nat → Option E} {tr : Nat → Tr} {S S' : Nat → Bool} {k : Nat} : ∀ (n : Nat), (∀ j, j < n → k ∈ (tr j).us.map (·.1) → S j = S' j) → sig σ tr S n k = sig σ tr S' n k := by
 intro n
 induction n with
 | zero => intro _; rfl
 | succ n ih =>
   intro h
   have h1 := ih fun j hj => h j (by omega)
   rw [sig, sig]
   by_cases hw : k ∈ (tr n).us.map (·.1)
   ·rw [h n (by omega) hw]
    split
    ·exact updAll_in hw
    ·exact h1
   ·split <;> split <;> simp only [updAll_ne hw, h1]
theorem gam_from {γ : Nat → V} {tr : Nat → Tr} {S : Nat → Bool} {t : Nat} : ∀ (n : Nat), gam γ tr S n t = γ t ∨ ∃ j, j < n ∧ S j = true ∧ (t, gam γ tr S n t) ∈ (tr j).ds := by
 intro n
 induction n with
 | zero => exact .inl rfl
 | succ n ih =>
   rw [gam]
   split
   ·rename_i hS
    rcases updVs_from (γ := gam γ tr S n) (ds := (tr n).ds) (t := t) with h | h
    ·rw [h]
     rcases ih with h1 | ⟨j, hj, hS', hm⟩
     ·exact .inl h1
     ·exact .inr ⟨j, by omega, hS', hm⟩
    ·exact .inr ⟨n, by omega, hS, h⟩
   ·rcases ih with h1 | ⟨j, hj, hS', hm⟩
    ·exact .inl h1
    ·exact .inr ⟨j, by omega, hS', hm⟩
theorem sig_from {σ : Nat → Option E} {tr : Nat → Tr} {S : Nat → Bool} {k : Nat} : ∀ (n : Nat), sig σ tr S n k = σ k ∨ ∃ j e, j < n ∧ S j = true ∧ sig σ tr S n k = some e ∧ (k, e) ∈ (tr j).us := by
 intro n
 induction n with
 | zero => exact .inl rfl
 | succ n ih =>
   rw [sig]
   split
   ·rename_i hS
    rcases updAll_from (σ := sig σ tr S n) (us := (tr n).us) (k := k) with h | ⟨e, h, h'⟩
    ·rw [h]
     rcases ih with h1 | ⟨j, e, hj, hS', hm, hm'⟩
     ·exact .inl h1
     ·exact .inr ⟨j, e, by omega, hS', hm, hm'⟩
    ·exact .inr ⟨n, e, by omega, hS, h, h'⟩
   ·rcases ih with h1 | ⟨j, e, hj, hS', hm, hm'⟩
    ·exact .inl h1
    ·exact .inr ⟨j, e, by omega, hS', hm, hm'⟩
theorem gam_below {γ : Nat → V} {tr : Nat → Tr} {i : Nat} : ∀ (n : Nat), i ≤ n → gam γ tr (fun j => decide (j < i)) n = gam γ tr (fun _ => true) i := by
 intro n
 induction n with
 | zero =>
   intro h
   obtain rfl : i = 0 := by omega
   rfl
 | succ n ih =>
   intro h
   by_cases hi : i = n + 1
   ·subst hi
    have key : ∀ m, m ≤ n + 1 → gam γ tr (fun j => decide (j < n + 1)) m = gam γ tr (fun _ => true) m := by
     intro m
     induction m with
     | zero => intro _; rfl
     | succ m ihm => intro hm; rw [gam, gam, ihm (by omega)]; simp; omega
    exact key _ (Nat.le_refl _)
   ·rw [gam, ih (by omega)]
    simp
    omega
theorem sig_below {σ : Nat → Option E} {tr : Nat → Tr} {i : Nat} : ∀ (n : Nat), i ≤ n → sig σ tr (fun j => decide (j < i)) n = sig σ tr (fun _ => true) i := by
 intro n
 induction n with
 | zero =>
   intro h
   obtain rfl : i = 0 := by omega
   rfl
 | succ n ih =>
   intro h
   by_cases hi : i = n + 1
   ·subst hi
    have key : ∀ m, m ≤ n + 1 → sig σ tr (fun j => decide (j < n + 1)) m = sig σ tr (fun _ => true) m := by
     intro m
     induction m with
     | zero => intro _; rfl
     | succ m ihm => intro hm; rw [sig, sig, ihm (by omega)]; simp; omega
    exact key _ (Nat.le_refl _)
   ·rw [sig, ih (by omega)]
    simp
    omega
def setB (S : Nat → Bool) (i : Nat) : Nat → Bool := fun j => decide (j = i) || S j
theorem updVs_comm {γ : Nat → V} {us vs : List (Nat × V)} (h : ∀ k, k ∈ us.map (·.1) → k ∉ vs.map (·.1)) : updVs (updVs γ us) vs = updVs (updVs γ vs) us := by
 funext k
 by_cases h1 : k ∈ us.map (·.1)
 ·rw [updVs_ne (h k h1)]
  exact updVs_in h1
 ·rw [updVs_ne (ds := us) h1]
  by_cases h2 : k ∈ vs.map (·.1)
  ·exact updVs_in h2
  ·rw [updVs_ne h2, updVs_ne h2, updVs_ne h1]
theorem gam_add {γ : Nat → V} {tr : Nat → Tr} {S : Nat → Bool} {i n : Nat} (hi : i < n) (hS : S i = false) (hlater : ∀ j k, i < j → j < n → S j = true → k ∈ (tr i).ds.map (·.1) → k ∉ (tr j).ds.map (·.1)) :
 gam γ tr (setB S i) n = updVs (gam γ tr S n) (tr i).ds := by
 have low : ∀ m, m ≤ i → gam γ tr (setB S i) m = gam γ tr S m := by
  intro m
  induction m with
  | zero => intro _; rfl
  | succ m ih =>
    intro hm
    have : setB S i m = S m := by unfold setB; simp; omega
    rw [gam, gam, this, ih (by omega)]
 have high : ∀ m, i < m → m ≤ n → gam γ tr (setB S i) m = updVs (gam γ tr S m) (tr i).ds := by
  intro m
  induction m with
  | zero => intro h; omega
  | succ m ih =>
    intro h1 h2
    rw [gam, gam]
    by_cases hm : m = i
    ·subst hm
     have : setB S m m = true := by simp [setB]
     rw [this, hS, low m (Nat.le_refl _)]
     simp
    ·have : setB S i m = S m := by unfold setB; simp [hm]
     rw [this, ih (by omega) (by omega)]
     split
     ·rename_i hSm
      exact updVs_comm fun k hk => hlater m k (by omega) (by omega) hSm hk
     ·rfl
 exact high n hi (Nat.le_refl _)
theorem updAll_comm {σ : Nat → Option E} {us vs : List (Nat × E)} (h : ∀ k, k ∈ us.map (·.1) → k ∉ vs.map (·.1)) : updAll (updAll σ us) vs = updAll (updAll σ vs) us := by
 funext k
 by_cases h1 : k ∈ us.map (·.1)
 ·rw [updAll_ne (h k h1)]
  exact updAll_in h1
 ·rw [updAll_ne (us := us) h1]
  by_cases h2 : k ∈ vs.map (·.1)
  ·exact updAll_in h2
  ·rw [updAll_ne h2, updAll_ne h2, updAll_ne h1]
theorem sig_add {σ : Nat → Option E} {tr : Nat → Tr} {S : Nat → Bool} {i n : Nat} (hi : i < n) (hS : S i = false) (hlater : ∀ j k, i < j → j < n → S j = true → k ∈ (tr i).us.map (·.1) → k ∉ (tr j).us.map (·.1)) :
 sig σ tr (setB S i) n = updAll (sig σ tr S n) (tr i).us := by
 have low : ∀ m, m ≤ i → sig σ tr (setB S i) m = sig σ tr S m := by
  intro m
  induction m with
  | zero => intro _; rfl
  | succ m ih =>
    intro hm
    have : setB S i m = S m := by unfold setB; simp; omega
    rw [sig, sig, this, ih (by omega)]
 have high : ∀ m, i < m → m ≤ n → sig σ tr (setB S i) m = updAll (sig σ tr S m) (tr i).us := by
  intro m
  induction m with
  | zero => intro h; omega
  | succ m ih =>
    intro h1 h2
    rw [sig, sig]
    by_cases hm : m = i
    ·subst hm
     have : setB S m m = true := by simp [setB]
     rw [this, hS, low m (Nat.le_refl _)]
     simp
    ·have : setB S i m = S m := by unfold setB; simp [hm]
     rw [this, ih (by omega) (by omega)]
     split
     ·rename_i hSm
      exact updAll_comm fun k hk => hlater m k (by omega) (by omega) hSm hk
     ·rfl
 exact high n hi (Nat.le_refl _)
def V.ids : V → List Nat
 | .ptr k _ | .elt k _ _ _ | .vec k _ | .sub k _ _ _ => [k]
 | _ => []
def Hint.ids : Hint → List Nat
 | .callS _ _ ρ _ _ => ρ.map (·.2)
 | _ => []
theorem entsC_congr {σ σ' : Nat → Option E} {ρ : Nat → Nat} : ∀ {σi : List (Nat × E)}, (∀ c ∈ σi.map (·.1), σ (ρ c) = σ' (ρ c)) → entsC σ ρ σi = entsC σ' ρ σi := by
 intro σi
 induction σi with
 | nil => intro _; rfl
 | cons p σi ih =>
   intro h
   obtain ⟨c, e⟩ := p
   rw [entsC, entsC, h c (by simp), ih fun x hx => h x (by rw [List.map_cons]; exact List.mem_cons_of_mem _ hx)]
theorem evCallS_local {P : Program} {σ σ' : Nat → Option E} {id g : Nat} {args : List V} {σi : List (Nat × E)} {as : List V} {ρ : List (Nat × Nat)} {r : V} {σo : List (Nat × E)} (h : ∀ k ∈ ρ.map (·.2), σ k = σ' k) :
 evCallS P σ id g args σi as ρ r σo = evCallS P σ' id g args σi as ρ r σo := by
 unfold evCallS
 by_cases hg : σi.map (·.1) = ρ.map (·.1) ∧ σo.map (·.1) = ρ.map (·.1) ∧ nodupL (ρ.map (·.1)) = true ∧ nodupL (ρ.map (·.2)) = true
 ·rw [if_pos hg, if_pos hg, entsC_congr]
  intro c hc
  rw [hg.1] at hc
  exact h _ (List.mem_map.2 ⟨_, renL_mem hc, rfl⟩)
 ·rw [if_neg hg, if_neg hg]
def usesMem : Op → Bool
 | .load .. | .store .. | .slice .. | .indexAddr .. | .call .. | .convert .. => true
 | _ => false
theorem evOpA_local {P : Program} {X : Ctx} {L L' : Operand → V} {σ σ' : Nat → Option E} {id : Nat} {h : Hint} {o : Op} (hL : ∀ x ∈ o.operands, L x = L' x) (hσ : usesMem o = true → ∀ x ∈ o.operands, ∀ k ∈ (L x).ids, σ k = σ' k) (hh : ∀ k ∈ h.ids, σ k = σ' k) :
 evOpA P X L σ id h o = evOpA P X L' σ' id h o := by
 have vecL : ∀ {k : Nat} {te : T}, σ k = σ' k → vecOf σ k te = vecOf σ' k te := by
  intro k te h; unfold vecOf; rw [h]
 have pl : ∀ ps : Array (Nat × Operand), (∀ x ∈ ps.map (·.2), L x = L' x) → parts L ps = parts L' ps := by
  intro ps hp
  unfold parts
  apply List.map_congr_left
  intro p hm
  rw [hp p.2 (Array.mem_map.2 ⟨p, by simpa using hm, rfl⟩)]
 unfold evOpA
 cases o <;> simp only [Op.operands] at hL hσ <;> (try simp only)
 case move x => rw [hL x (by simp)]
 case assign x => rw [hL x (by simp)]
 case pick c a b => rw [hL c (by simp), hL a (by simp), hL b (by simp)]
 case box t v => rw [hL v (by simp)]
 case build t ps => rw [pl ps fun x hx => hL x (by simpa using hx)]
 case buildSlice t n ps => rw [pl ps fun x hx => hL x (by simpa using hx)]
 case load t a =>
  have h1 := hL a (by simp)
  have h2 := hσ rfl a (by simp)
  rw [← h1]
  unfold evLoad
  cases hv : L a <;> rw [hv] at h2 <;> simp only [V.ids, List.mem_singleton, forall_eq] at h2 <;> first
   | rfl
   | (simp only [h2]; done)
   | (simp only [vecL h2]; done)
 case store t a v =>
  have h1 := hL a (by simp)
  have h2 := hσ rfl a (by simp)
  rw [← h1, ← hL v (by simp)]
  unfold evStore
  cases hv : L a <;> rw [hv] at h2 <;> simp only [V.ids, List.mem_singleton, forall_eq] at h2 <;> first
   | rfl
   | (simp only [h2]; done)
   | (simp only [vecL h2]; done)
 case nilCheck x => rw [hL x (by simp)]
 case binOp op t x y yt => rw [hL x (by simp), hL y (by simp)]
 case unOp op t x => rw [hL x (by simp)]
 case convert s d x => rw [hL x (by simp)]
 case makeSlice t l c => rw [hL l (by simp), hL c (by simp)]
 case slice t x lo hi mx =>
  have hx := hL x (by simp)
  have hlo : lo.map L = lo.map L' := by cases lo with | none => rfl | some y => simp only [Option.map_some]; rw [hL y (by simp)]
  have hhi : hi.map L = hi.map L' := by cases hi with | none => rfl | some y => simp only [Option.map_some]; rw [hL y (by simp)]
  have hmx : mx.map L = mx.map L' := by cases mx with | none => rfl | some y => simp only [Option.map_some]; rw [hL y (by simp)]
  have h2 := hσ rfl x (by simp)
  rw [← hx, ← hlo, ← hhi, ← hmx]
  have : evSliceV X σ t (L x) (lo.map L) (hi.map L) (mx.map L) = evSliceV X σ' t (L x) (lo.map L) (hi.map L) (mx.map L) := by
   unfold evSliceV
   cases hv : L x <;> rw [hv] at h2 <;> simp only [V.ids, List.mem_singleton, forall_eq] at h2 <;> first
    | rfl
    | (simp only [vecL h2]; done)
  rw [this]
 case fieldAddr s x f => rw [hL x (by simp)]
 case field s x f => rw [hL x (by simp)]
 case indexAddr t x i =>
  have h2 := hσ rfl x (by simp)
  rw [← hL x (by simp), ← hL i (by simp)]
  unfold evIndexAddr
  cases hv : L x <;> rw [hv] at h2 <;> simp only [V.ids, List.mem_singleton, forall_eq] at h2 <;> first
   | rfl
   | (rename_i tt y; cases tt <;> rfl)
   | (simp only [vecL h2]; done)
 case index t x i => rw [hL x (by simp), hL i (by simp)]
 case extract t i => rw [hL t (by simp)]
 case call c =>
  obtain ⟨callee, args, argTypes⟩ := c
  replace hσ := hσ rfl
  simp only [Call.operands] at hL hσ
  have hargs : args.toList.map L = args.toList.map L' := List.map_congr_left fun x hx => hL x (by simp; right; simpa using hx)
  unfold evCall
  cases callee with
  | invoke r m => rfl
  | builtin b =>
    cases b <;> first | rfl | skip
    case append =>
     simp only
     split
     ·rename_i s x t t' h1 h2
      have hs' : s ∈ args.toList := by rw [h1]; simp
      have hs : s ∈ args := by simpa using hs'
      have hx' : x ∈ args.toList := by rw [h1]; simp
      have hx : x ∈ args := by simpa using hx'
      rw [← hL s (by simp [hs]), ← hL x (by simp [hx])]
      have h3 := hσ s (by simp [hs])
      have : evAppend X σ h id t (L s) (L x) = evAppend X σ' h id t (L s) (L x) := by
       unfold evAppend evAppend0
       cases hv : L s <;> rw [hv] at h3 <;> simp only [V.ids, List.mem_singleton, forall_eq] at h3 <;> cases h <;> first
        | rfl
        | (have hq : ∀ te, vecOf σ _ te = vecOf σ' _ te := fun te => vecL h3
           simp only [hq]; done)
      rw [this]
     ·rfl
    case len =>
     simp only
     split
     ·rename_i x t h1 h2
      have hx' : x ∈ args.toList := by rw [h1]; simp
      have hx : x ∈ args := by simpa using hx'
      rw [← hL x (by simp [hx])]
      have h3 := hσ x (by simp [hx])
      have : evLen X σ t (L x) = evLen X σ' t (L x) := by
       unfold evLen
       cases hv : L x <;> rw [hv] at h3 <;> simp only [V.ids, List.mem_singleton, forall_eq] at h3 <;> first
        | rfl
        | ((cases X.ty t with | none => rfl | some q => cases q <;> rfl); done)
        | ((rename_i tt y; cases X.ty t with | none => rfl | some q => cases q <;> cases tt <;> rfl); done)
        | ((rename_i k te
            have hq : ∀ te, vecOf σ k te = vecOf σ' k te := fun te => vecL h3
            cases X.ty t with
            | none => rfl
            | some q => cases q <;> first | rfl | simp only [hq]); done)
      rw [this]
     ·rfl
    case max => simp only [hargs]
    case min => simp only [hargs]
  | value f =>
    simp only
    rw [hL f (by simp), hargs]
    cases L' f <;> first | rfl | skip
    cases h <;> first | rfl | skip
    simp only [evCallS_local hh]
 case makeFunc fn fst cap =>
  cases fn <;> first | rfl | skip
  have h1 : fst.toList.map L = fst.toList.map L' := List.map_congr_left fun x hx => hL x (by simp; left; simpa using hx)
  have h2 : cap.toList.map L = cap.toList.map L' := List.map_congr_left fun x hx => hL x (by simp; right; simpa using hx)
  simp only [h1, h2]
theorem evOpB_local {P : Program} {X : Ctx} {L L' : Operand → V} {σ σ' : Nat → Option E} {id : Nat} {h : Hint} {o : Op} (hL : ∀ x ∈ o.operands, L x = L' x) (hσ : usesMem o = true → ∀ x ∈ o.operands, ∀ k ∈ (L x).ids, σ k = σ' k) :
 evOpB P X L σ id h o = evOpB P X L' σ' id h o := by
 have vecL : ∀ {k : Nat} {te : T}, σ k = σ' k → vecOf σ k te = vecOf σ' k te := by
  intro k te h; unfold vecOf; rw [h]
 have rowL : ∀ {v : V} (t : T), (∀ k ∈ v.ids, σ k = σ' k) → rowOf σ t v = rowOf σ' t v := by
  intro v t h
  cases v <;> simp only [V.ids, List.mem_singleton, forall_eq] at h <;> first
   | rfl
   | (simp only [rowOf, vecL h]; done)
 have pl : ∀ ps : Array (Nat × Operand), (∀ x ∈ ps.map (·.2), L x = L' x) → parts L ps = parts L' ps := by
  intro ps hp
  unfold parts
  apply List.map_congr_left
  intro p hm
  rw [hp p.2 (Array.mem_map.2 ⟨p, by simpa using hm, rfl⟩)]
 unfold evOpB
 cases o <;> simp only [Op.operands] at hL hσ <;> (try simp only)
 case build t ps => rw [pl ps fun x hx => hL x (by simpa using hx)]
 case binOp op t x y yt => rw [hL x (by simp), hL y (by simp)]
 case convert s d x =>
  have h2 := hσ rfl x (by simp)
  rw [← hL x (by simp)]
  generalize L x = v at h2
  unfold evConvB
  split
  ·rw [h2 _ (by simp [V.ids])]
  ·rw [h2 _ (by simp [V.ids])]
  ·rw [rowL (.int .u8) h2]
  ·rfl
  ·rfl
 case slice t x lo hi mx =>
  have h2 := hσ rfl x (by simp)
  rw [← hL x (by simp)]
  have e1 : lo.map L = lo.map L' := by cases lo with | none => rfl | some y => simp [hL y (by simp)]
  have e2 : hi.map L = hi.map L' := by cases hi with | none => rfl | some y => simp [hL y (by simp)]
  have e3 : mx.map L = mx.map L' := by cases mx with | none => rfl | some y => simp [hL y (by simp)]
  rw [e1, e2, e3]
  generalize L x = v at h2
  unfold evSliceB
  split
  ·rw [vecL (h2 _ (by simp [V.ids]))]
  ·rfl
 case indexAddr t x i =>
  have h2 := hσ rfl x (by simp)
  rw [← hL x (by simp), ← hL i (by simp)]
  rfl
 case call c =>
  obtain ⟨callee, args, argTypes⟩ := c
  replace hσ := hσ rfl
  simp only [Call.operands] at hL hσ
  unfold evCallB
  cases callee with
  | invoke r m => rfl
  | builtin b =>
    cases b <;> first | rfl | skip
    case append =>
     simp only
     split
     ·rename_i s x t t' h1 h2
      have hs' : s ∈ args.toList := by rw [h1]; simp
      have hs : s ∈ args := by simpa using hs'
      have hx' : x ∈ args.toList := by rw [h1]; simp
      have hx : x ∈ args := by simpa using hx'
      rw [← hL s (by simp [hs]), ← hL x (by simp [hx])]
      have h3 := hσ s (by simp [hs])
      have h4 := hσ x (by simp [hx])
      have em : ∀ (te : T) (m : List te.D), evAppM X σ h id t te (L s) m = evAppM X σ' h id t te (L s) m := by
       intro te m
       unfold evAppM
       cases hv : L s <;> rw [hv] at h3 <;> simp only [V.ids, List.mem_singleton, forall_eq] at h3 <;> first
        | rfl
        | (simp only [vecL h3]; done)
      unfold evAppB
      simp only [em]
      cases hv : L x <;> rw [hv] at h4 <;> first
       | rfl
       | (simp only [rowL _ h4]; done)
       | (rename_i tt y; cases tt <;> first | rfl | (simp only [rowL _ h4]; done))
     ·rfl
    case cap =>
     simp only
     split
     ·rename_i x t h1 h2
      have hx' : x ∈ args.toList := by rw [h1]; simp
      have hx : x ∈ args := by simpa using hx'
      rw [← hL x (by simp [hx])]
     ·rfl
    case unsafeSliceData =>
     simp only
     split
     ·rename_i x h1
      have hx' : x ∈ args.toList := by rw [h1]; simp
      have hx : x ∈ args := by simpa using hx'
      rw [← hL x (by simp [hx])]
      have h3 := hσ x (by simp [hx])
      cases hv : L x <;> rw [hv] at h3 <;> simp only [V.ids, List.mem_singleton, forall_eq] at h3 <;> first
       | rfl
       | (simp only [vecL h3]; done)
     ·rfl
    case unsafeString =>
     simp only
     split
     ·rename_i x y pt it h1 h2
      have hx' : x ∈ args.toList := by rw [h1]; simp
      have hx : x ∈ args := by simpa using hx'
      have hy' : y ∈ args.toList := by rw [h1]; simp
      have hy : y ∈ args := by simpa using hy'
      rw [← hL x (by simp [hx]), ← hL y (by simp [hy])]
      have h3 := hσ x (by simp [hx])
      generalize L x = v at h3
      split
      ·rw [vecL (h3 _ (by simp [V.ids]))]
      ·rfl
     ·rfl
  | value f =>
    simp only
    rw [hL f (by simp)]
    split
    ·split
     ·rename_i fn x hfn h1
      have hx' : x ∈ args.toList := by rw [h1]; simp
      have hx : x ∈ args := by simpa using hx'
      rw [hL x (by simp [hx])]
     ·rename_i fn x y hfn h1
      have hx' : x ∈ args.toList := by rw [h1]; simp
      have hx : x ∈ args := by simpa using hx'
      have hy' : y ∈ args.toList := by rw [h1]; simp
      have hy : y ∈ args := by simpa using hy'
      rw [hL x (by simp [hx]), hL y (by simp [hy])]
     ·rfl
    ·rfl
theorem evOp_local {P : Program} {X : Ctx} {L L' : Operand → V} {σ σ' : Nat → Option E} {id : Nat} {h : Hint} {o : Op} (hL : ∀ x ∈ o.operands, L x = L' x) (hσ : usesMem o = true → ∀ x ∈ o.operands, ∀ k ∈ (L x).ids, σ k = σ' k) (hh : ∀ k ∈ h.ids, σ k = σ' k) :
 evOp P X L σ id h o = evOp P X L' σ' id h o := by
 unfold evOp
 rw [evOpA_local hL hσ hh, evOpB_local hL hσ]
end Go.Sw

namespace Go.Sw
def V.has (ks : List Nat) : V → Bool
 | .ptr k _ | .elt k _ _ _ | .vec k _ | .sub k _ _ _ => ks.contains k
 | .fn _ a c => a.has ks || c.has ks
 | .agg x | .tup x => x.has ks
 | .vcons a b => a.has ks || b.has ks
 | _ => false
def E.has (ks : List Nat) : E → Bool
 | .box _ c => c.has ks
 | .vec .. => false
structure Tk where
 tr : Tr
 ids : List Nat
 ks : List Nat
 c : List Cnd
def readsOf (ops : Array Oper) (o : Oper) : List Nat :=
 (o.op.operands.toList.filterMap fun x => match x with | .tmp t => some t | _ => none) ++ (match o.guard with | some g => (match (ops[g.1]?).bind (·.dst) with | some d => [d] | none => []) | none => [])
def optD (d : Option Nat) (v : V) : List (Nat × V) := match d with | some d => [(d, v)] | none => []
def killSlots (ks : List Nat) : List (Nat × V) → List (Nat × V)
 | [] => []
 | (t, v) :: r => bif v.has ks then (t, .un) :: killSlots ks r else killSlots ks r
def killEnts (ks : List Nat) : List (Nat × E) → List (Nat × E)
 | [] => []
 | (k, e) :: r => bif e.has ks then (k, e.kill (killP ks)) :: killEnts ks r else killEnts ks r
def uniqE : List (Nat × E) → List Nat → List (Nat × E)
 | [], _ => []
 | (k, e) :: r, seen => bif seen.contains k then uniqE r seen else (k, e) :: uniqE r (k :: seen)
def killSl (ks : List Nat) (Γ : List (Nat × V)) : List (Nat × V) := match ks with
 | [] => []
 | ks => killSlots ks Γ
def killEn (ks : List Nat) (σ : List (Nat × E)) : List (Nat × E) := match ks with
 | [] => []
 | ks => killEnts ks (uniqE σ [])
def evTk (P : Program) (X : Ctx) (n : Nat) (ops : Array Oper) (hs : List (Nat × Hint)) (base i : Nat) (s : St) : Option Tk :=
 match ops[i]? with
 | none => none
 | some o =>
   if dstOk n o.dst = true then
    match wantedV ops (getV s.Γ) o.guard with
    | some true =>
      (match getE s.σ (base + i) with
       | some _ => none
       | none =>
         match evOp P X (look (getV s.Γ)) (getE s.σ) (base + i) (hintAt hs i) o.op with
         | some out =>
           if lowL out.kill = true then
            let us := killEn out.kill s.σ ++ out.upd
            some ⟨⟨killSl out.kill s.Γ ++ optD o.dst (decideV (hintAt hs i) out.v).1, us⟩,
             (base + i) :: ((hintAt hs i).ids ++ ((bif usesMem o.op then (o.op.operands.toList.map fun x => (look (getV s.Γ) x).ids).flatten else []) ++ us.map (·.1))),
             out.kill, out.c ++ (decideV (hintAt hs i) out.v).2⟩
           else none
         | none => none)
    | some false => some ⟨⟨optD o.dst (.tup .vnil), []⟩, [], [], []⟩
    | none => none
   else none
def St.puts (s : St) : List (Nat × V) → St
 | [] => s
 | (d, v) :: r => St.puts ⟨(d, v) :: s.Γ, s.σ⟩ r
def St.tr (s : St) (k : Tr) : St := (s.upd k.us).puts k.ds
theorem puts_Γ : ∀ (ds : List (Nat × V)) (s : St), getV (s.puts ds).Γ = updVs (getV s.Γ) ds := by
 intro ds
 induction ds with
 | nil => intro s; rfl
 | cons d ds ih => intro s; obtain ⟨k, v⟩ := d; rw [St.puts, ih, updVs]; rfl
theorem puts_σ : ∀ (ds : List (Nat × V)) (s : St), (s.puts ds).σ = s.σ := by
 intro ds
 induction ds with
 | nil => intro s; rfl
 | cons d ds ih => intro s; obtain ⟨k, v⟩ := d; rw [St.puts, ih]
def evTks (P : Program) (X : Ctx) (n : Nat) (ops : Array Oper) (hs : List (Nat × Hint)) (base : Nat) : Nat → Nat → St → Option (List Tk × St)
 | 0, _, s => some ([], s)
 | m + 1, i, s => match evTk P X n ops hs base i s with
   | some k => (match evTks P X n ops hs base m (i + 1) (s.tr k.tr) with | some q => some (k :: q.1, q.2) | none => none)
   | none => none
def meets (a b : List Nat) : Bool := a.any fun x => b.contains x
def depsOf (o : Oper) : List Nat := (o.after.toList.filter fun e => Region.binds .any e).map (·.on)
def clash (ops : Array Oper) (oj oi : Oper) (kj ki : Tk) : Bool :=
 meets (kj.tr.ds.map (·.1)) (readsOf ops oi) || meets (kj.tr.ds.map (·.1)) (ki.tr.ds.map (·.1)) || meets (ki.tr.ds.map (·.1)) (readsOf ops oj) ||
 meets (kj.tr.us.map (·.1)) ki.ids || meets (ki.tr.us.map (·.1)) kj.ids
def covers (s : St) (M : List Nat) (ts : List Tk) (i : Nat) (k : Tk) : Bool :=
 match k.ks with
 | [] => true
 | ks =>
   (s.Γ.all fun p => !p.2.has ks || (k.tr.ds.map (·.1)).contains p.1) && (s.σ.all fun p => !p.2.has ks || (k.tr.us.map (·.1)).contains p.1) &&
   allBelow' ts.length fun j => match ts[j]? with
    | some kj => j == i || (M.getD j 0).testBit i && decide (i < j) || ((kj.tr.ds.all fun p => !p.2.has ks || (k.tr.ds.map (·.1)).contains p.1) && (kj.tr.us.all fun p => !p.2.has ks || (k.tr.us.map (·.1)).contains p.1))
    | none => true
where
 allBelow' : Nat → (Nat → Bool) → Bool
  | 0, _ => true
  | n + 1, p => p n && allBelow' n p
def maskOf (o : Oper) (acc : List Nat) : Nat := (depsOf o).foldr (fun e m => m ||| (1 <<< e) ||| acc.getD e 0) 0
def masks : List Oper → List Nat → List Nat
 | [], acc => acc
 | o :: os, acc => masks os (acc ++ [maskOf o acc])
def allBelow : Nat → (Nat → Bool) → Bool
 | 0, _ => true
 | n + 1, p => p n && allBelow n p
theorem allBelow_spec {p : Nat → Bool} : ∀ {n : Nat}, allBelow n p = true → ∀ i, i < n → p i = true := by
 intro n
 induction n with
 | zero => intro _ i h; omega
 | succ n ih =>
   intro h i hi
   rw [allBelow, Bool.and_eq_true] at h
   by_cases e : i = n
   ·subst e; exact h.1
   ·exact ih h.2 i (by omega)
theorem allBelow_eq : ∀ (n : Nat) (p : Nat → Bool), covers.allBelow' n p = allBelow n p := by
 intro n p
 induction n with
 | zero => rfl
 | succ n ih => rw [covers.allBelow', allBelow, ih]
def ordOk1 (ops : Array Oper) (s : St) (M : List Nat) (ts : List Tk) (i : Nat) : Bool :=
 match ops[i]?, ts[i]? with
 | some oi, some ki =>
   ((depsOf oi).all (fun e => decide (e < i)) && decide (M.getD i 0 < 2 ^ i) && covers s M ts i ki) &&
   allBelow i fun j => match ops[j]?, ts[j]? with
    | some oj, some kj =>
      bif (M.getD i 0).testBit j then (depsOf oi).any (fun e => e == j || (M.getD e 0).testBit j) else !clash ops oj oi kj ki
    | _, _ => false
 | _, _ => false
def ordOk (ops : Array Oper) (s : St) (M : List Nat) (ts : List Tk) : Bool := allBelow ops.size (ordOk1 ops s M ts)
theorem meets_mem {a b : List Nat} (h : meets a b = false) {x : Nat} (ha : x ∈ a) : x ∉ b := by
 intro hb
 have : meets a b = true := by
  unfold meets
  rw [List.any_eq_true]
  exact ⟨x, ha, by simpa using hb⟩
 rw [h] at this
 cases this
structure Ord (ops : Array Oper) (s : St) (M : List Nat) (t : Nat → Tk) : Prop where
 bits : ∀ (i : Nat) (o : Oper), ops[i]? = some o → M.getD i 0 < 2 ^ i
 low : ∀ (i : Nat) (o : Oper), ops[i]? = some o → ∀ e ∈ depsOf o, e < i
 path : ∀ (i : Nat) (o : Oper) (j : Nat), ops[i]? = some o → j < i → (M.getD i 0).testBit j = true → ∃ e ∈ depsOf o, e = j ∨ (M.getD e 0).testBit j = true
 cov : ∀ (i : Nat) (o : Oper), ops[i]? = some o → (t i).ks ≠ [] → (∀ p ∈ s.Γ, p.2.has (t i).ks = true → p.1 ∈ (t i).tr.ds.map (·.1)) ∧ (∀ p ∈ s.σ, p.2.has (t i).ks = true → p.1 ∈ (t i).tr.us.map (·.1)) ∧
  ∀ j, j < ops.size → j ≠ i → (i < j ∧ (M.getD j 0).testBit i = true) ∨ ((∀ p ∈ (t j).tr.ds, p.2.has (t i).ks = true → p.1 ∈ (t i).tr.ds.map (·.1)) ∧ (∀ p ∈ (t j).tr.us, p.2.has (t i).ks = true → p.1 ∈ (t i).tr.us.map (·.1)))
 apart : ∀ (i j : Nat) (oi oj : Oper), ops[i]? = some oi → ops[j]? = some oj → j < i → (M.getD i 0).testBit j = false → clash ops oj oi (t j) (t i) = false
theorem ordOk_spec {ops : Array Oper} {s : St} {M : List Nat} {ts : List Tk} {t : Nat → Tk} (ht : ∀ (i : Nat) (k : Tk), ts[i]? = some k → t i = k) (hlen : ts.length = ops.size) (h : ordOk ops s M ts = true) : Ord ops s M t := by
 have h1 : ∀ i o, ops[i]? = some o → ordOk1 ops s M ts i = true := fun i o ho => allBelow_spec h i (Array.getElem?_eq_some_iff.1 ho).1
 refine ⟨fun i o ho => ?_, fun i o ho e he => ?_, fun i o j ho hj hb => ?_, fun i o ho hne => ?_, fun i j oi oj hi hj hlt hb => ?_⟩
 ·have := h1 i o ho
  unfold ordOk1 at this
  rw [ho] at this
  cases hk : ts[i]? with
  | none => rw [hk] at this; cases this
  | some ki =>
    rw [hk] at this
    simp only [Bool.and_eq_true, decide_eq_true_eq] at this
    exact this.1.1.2
 ·have := h1 i o ho
  unfold ordOk1 at this
  rw [ho] at this
  cases hk : ts[i]? with
  | none => rw [hk] at this; cases this
  | some ki =>
    rw [hk] at this
    simp only [Bool.and_eq_true, List.all_eq_true, decide_eq_true_eq] at this
    exact this.1.1.1 e he
 ·have := h1 i o ho
  unfold ordOk1 at this
  rw [ho] at this
  cases hk : ts[i]? with
  | none => rw [hk] at this; cases this
  | some ki =>
    rw [hk] at this
    simp only [Bool.and_eq_true] at this
    have := allBelow_spec this.2 j hj
    cases hoj : ops[j]? with
    | none => rw [hoj] at this; cases this
    | some oj =>
      rw [hoj] at this
      cases hkj : ts[j]? with
      | none => rw [hkj] at this; cases this
      | some kj =>
        rw [hkj] at this
        simp only [hb, cond_true, List.any_eq_true, Bool.or_eq_true, beq_iff_eq] at this
        exact this
 ·have := h1 i o ho
  unfold ordOk1 at this
  rw [ho] at this
  cases hk : ts[i]? with
  | none => rw [hk] at this; cases this
  | some ki =>
    rw [hk] at this
    simp only [Bool.and_eq_true] at this
    have hc := this.1.2
    rw [ht i ki hk] at hne ⊢
    unfold covers at hc
    split at hc
    ·rename_i h0; exact absurd h0 hne
    ·simp only [Bool.and_eq_true, List.all_eq_true, Bool.or_eq_true, Bool.not_eq_true', List.contains_iff_mem] at hc
     obtain ⟨⟨c1, c2⟩, c3⟩ := hc
     rw [allBelow_eq] at c3
     refine ⟨fun p hp hh => (c1 p hp).resolve_left (by rw [hh]; simp), fun p hp hh => (c2 p hp).resolve_left (by rw [hh]; simp), fun j hj hji => ?_⟩
     have hj' : j < ts.length := by omega
     have := allBelow_spec c3 j hj'
     have hkj : ts[j]? = some ts[j] := by simp [hj']
     rw [hkj] at this
     simp only [Bool.or_eq_true, Bool.and_eq_true, beq_iff_eq, decide_eq_true_eq, List.all_eq_true, Bool.not_eq_true', List.contains_iff_mem] at this
     rw [ht j _ hkj]
     rcases this with (h | h) | h
     ·exact absurd h hji
     ·exact .inl ⟨h.2, h.1⟩
     ·exact .inr ⟨fun p hp hh => (h.1 p hp).resolve_left (by rw [hh]; simp), fun p hp hh => (h.2 p hp).resolve_left (by rw [hh]; simp)⟩
 ·have := h1 i oi hi
  unfold ordOk1 at this
  rw [hi] at this
  cases hk : ts[i]? with
  | none => rw [hk] at this; cases this
  | some ki =>
    rw [hk] at this
    simp only [Bool.and_eq_true] at this
    have := allBelow_spec this.2 j hlt
    rw [hj] at this
    cases hkj : ts[j]? with
    | none => rw [hkj] at this; cases this
    | some kj =>
      rw [hkj] at this
      simp only [hb, cond_false, Bool.not_eq_true'] at this
      rw [ht j kj hkj, ht i ki hk]
      exact this
end Go.Sw

namespace Go.Sw
section
variable {P : Program} {X : Ctx} {F : Nat → Prop} {ι : Nat → Loc} {w : World} {n : Nat} {ops : Array Oper} {hs : List (Nat × Hint)} {base : Nat}
theorem updV_ne1 {γ : Nat → V} {d : Option Nat} {v : V} {t : Nat} (h : d ≠ some t) : updV γ d v t = γ t := by
 cases d with
 | none => rfl
 | some d => simp only [updV]; rw [if_neg (fun e => h (by rw [e]))]
theorem V.kill_not {ks : List Nat} : ∀ {x : V}, x.has ks = false → x.kill (killP ks) = x := by
 intro x
 induction x with
 | ptr k o => intro h; simp only [V.has] at h; simp only [V.kill, killP, h]; try rfl
 | elt k t i o => intro h; simp only [V.has] at h; simp only [V.kill, killP, h]; try rfl
 | vec k t => intro h; simp only [V.has] at h; simp only [V.kill, killP, h]; try rfl
 | sub k t o l => intro h; simp only [V.has] at h; simp only [V.kill, killP, h]; try rfl
 | fn f a c ih1 ih2 => intro h; simp only [V.has, Bool.or_eq_false_iff] at h; simp only [V.kill, ih1 h.1, ih2 h.2]
 | agg l ih => intro h; simp only [V.has] at h; simp only [V.kill, ih h]
 | tup l ih => intro h; simp only [V.has] at h; simp only [V.kill, ih h]
 | vcons a b ih1 ih2 => intro h; simp only [V.has, Bool.or_eq_false_iff] at h; simp only [V.kill, ih1 h.1, ih2 h.2]
 | _ => intro h; rfl
theorem E.kill_not {ks : List Nat} {e : E} (h : e.has ks = false) : e.kill (killP ks) = e := by
 cases e with
 | box t c => rw [E.kill, V.kill_not h]
 | vec e t l => rfl
theorem killSlots_un {ks : List Nat} : ∀ {Γ : List (Nat × V)}, ∀ p ∈ killSlots ks Γ, p.2 = .un := by
 intro Γ
 induction Γ with
 | nil => intro p h; cases h
 | cons q Γ ih =>
   intro p h
   obtain ⟨t, v⟩ := q
   rw [killSlots] at h
   cases hv : v.has ks with
   | true => rw [hv, cond_true, List.mem_cons] at h; exact h.elim (fun e => by rw [e]) (ih p)
   | false => rw [hv, cond_false] at h; exact ih p h
theorem updVs_un {γ : Nat → V} {ds : List (Nat × V)} (h : ∀ p ∈ ds, p.2 = .un) {t : Nat} (ht : t ∈ ds.map (·.1)) : updVs γ ds t = .un := by
 rw [updVs_in (γ' := fun _ => .un) ht]
 rcases updVs_from (γ := fun _ => V.un) (ds := ds) (t := t) with h1 | h1
 ·exact h1
 ·exact h _ h1
theorem uniqE_mem : ∀ {σ : List (Nat × E)} {seen : List Nat} {k : Nat} {e : E}, (k, e) ∈ uniqE σ seen → k ∉ seen ∧ getE σ k = some e := by
 intro σ
 induction σ with
 | nil => intro seen k e h; cases h
 | cons p σ ih =>
   intro seen k e h
   obtain ⟨j, x⟩ := p
   rw [uniqE] at h
   cases hs : seen.contains j with
   | true =>
     rw [hs, cond_true] at h
     obtain ⟨h1, h2⟩ := ih h
     refine ⟨h1, ?_⟩
     have hj : j ∈ seen := by simpa using hs
     rw [getE, if_neg (fun e => h1 (by rw [← e]; exact hj))]
     exact h2
   | false =>
     rw [hs, cond_false, List.mem_cons] at h
     have hj : j ∉ seen := by simpa using hs
     rcases h with h | h
     ·obtain ⟨rfl, rfl⟩ := Prod.mk.inj h
      exact ⟨hj, by rw [getE, if_pos rfl]⟩
     ·obtain ⟨h1, h2⟩ := ih h
      rw [List.mem_cons] at h1
      refine ⟨fun h => h1 (.inr h), ?_⟩
      rw [getE, if_neg (fun e => h1 (.inl e.symm))]
      exact h2
theorem killEnts_mem {ks : List Nat} : ∀ {l : List (Nat × E)} {k : Nat} {e' : E}, (k, e') ∈ killEnts ks l → ∃ e, (k, e) ∈ l ∧ e' = e.kill (killP ks) := by
 intro l
 induction l with
 | nil => intro k e' h; cases h
 | cons p l ih =>
   intro k e' h
   obtain ⟨j, x⟩ := p
   rw [killEnts] at h
   cases hx : x.has ks with
   | true =>
     rw [hx, cond_true, List.mem_cons] at h
     rcases h with h | h
     ·obtain ⟨rfl, rfl⟩ := Prod.mk.inj h
      exact ⟨x, by simp, rfl⟩
     ·obtain ⟨e, h1, h2⟩ := ih h
      exact ⟨e, List.mem_cons_of_mem _ h1, h2⟩
   | false =>
     rw [hx, cond_false] at h
     obtain ⟨e, h1, h2⟩ := ih h
     exact ⟨e, List.mem_cons_of_mem _ h1, h2⟩
theorem evTk_use (K : TyOk P X) (hops : DstLt ops n) {s : St} {i : Nat} {o : Oper} {k : Tk} (ho : ops[i]? = some o) (h : evTk P X n ops hs base i s = some k) (hc : AllTrue k.c)
 {γ' : Nat → V} {σ' : Nat → Option E} (hγ : ∀ t ∈ readsOf ops o, getV s.Γ t = γ' t) (hσ : ∀ x ∈ k.ids, getE s.σ x = σ' x)
 (cγ : k.ks ≠ [] → ∀ t, t ∉ k.tr.ds.map (·.1) → (γ' t).has k.ks = false) (cσ : k.ks ≠ [] → ∀ id e, id ∉ k.tr.us.map (·.1) → σ' id = some e → e.has k.ks = false)
 {a : Act} (H : Holds F n γ' σ' ι a w) (hG : Gl P F ι w) {Kt : Act → World → Prop} {Q : Exit → Act → World → Prop}
 (hk : ∀ ι' a' w', Holds F n (updVs γ' k.tr.ds) (updAll σ' k.tr.us) ι' a' w' → ExtA ι w ι' w' → Kt a' w') : wpOp P ops Q i Kt a w := by
 have hL : ∀ x ∈ o.op.operands, look (getV s.Γ) x = look γ' x := by
  intro x hx
  cases x with
  | tmp t =>
    refine hγ t ?_
    unfold readsOf
    rw [List.mem_append]
    left
    rw [List.mem_filterMap]
    exact ⟨.tmp t, by simpa using hx, rfl⟩
  | _ => rfl
 have hW : wantedV ops (getV s.Γ) o.guard = wantedV ops γ' o.guard := by
  unfold wantedV
  cases hg : o.guard with
  | none => rfl
  | some g =>
    obtain ⟨j, want⟩ := g
    simp only
    cases hd : (ops[j]?).bind (·.dst) with
    | none => rfl
    | some d =>
      have : getV s.Γ d = γ' d := by
       refine hγ d ?_
       unfold readsOf
       rw [List.mem_append]
       right
       rw [hg]
       simp only [hd, List.mem_singleton]
      simp only [this]
 have hput : ∀ (γ : Nat → V) (d : Option Nat) (v : V), updVs γ (optD d v) = updV γ d v := by
  intro γ d v
  cases d <;> rfl
 unfold wpOp
 unfold evTk at h
 rw [ho] at h ⊢
 simp only at h ⊢
 split at h
 ·rename_i hd
  cases hw : wantedV ops (getV s.Γ) o.guard with
  | none => rw [hw] at h; cases h
  | some β =>
    rw [hw] at h
    have hwt := wantedV_sound H hops (by rw [← hW]; exact hw)
    cases β with
    | false =>
      simp only at h
      obtain rfl := Option.some.inj h
      rw [if_neg (by rw [hwt]; simp)]
      have := H.done (out := ⟨.tup .vnil, [], [], []⟩) (u := undef) (Done.pure H.mem rfl rfl ⟨#[], rfl, rfl⟩) (dstOk_lt hd)
      obtain ⟨ι', h1, h2, h3⟩ := this
      refine hk ι' _ _ ?_ ⟨h2, lowL_same rfl h3⟩
      simp only [killP_nil, V.kill_none] at h1
      have he : Go.Sw.after σ' ⟨.tup .vnil, [], [], []⟩ = updAll σ' [] := by
       unfold Go.Sw.after updAll
       simp only [killP_nil, killE_none]
      rw [he] at h1
      rw [hput]
      exact h1
    | true =>
      simp only at h
      cases hid : getE s.σ (base + i) with
      | some _ => rw [hid] at h; cases h
      | none =>
        rw [hid] at h
        simp only at h
        cases he : evOp P X (look (getV s.Γ)) (getE s.σ) (base + i) (hintAt hs i) o.op with
        | none => rw [he] at h; cases h
        | some out =>
          rw [he] at h
          simp only at h
          split at h
          ·rename_i hlow
           obtain rfl := Option.some.inj h
           simp only at hσ cγ cσ hk hc
           have h1 : σ' (base + i) = none := by rw [← hσ (base + i) (by simp)]; exact hid
           have h2 : evOp P X (look (getV s.Γ)) (getE s.σ) (base + i) (hintAt hs i) o.op = evOp P X (look γ') σ' (base + i) (hintAt hs i) o.op := by
            refine evOp_local hL (fun hm x hx y hy => hσ y ?_) fun y hy => hσ y ?_
            ·rw [hm, cond_true, List.mem_cons, List.mem_append, List.mem_append, List.mem_flatten]
             exact .inr (.inr (.inl ⟨_, List.mem_map.2 ⟨x, by simpa using hx, rfl⟩, hy⟩))
            ·rw [List.mem_cons, List.mem_append]
             exact .inr (.inl hy)
           rw [he] at h2
           obtain ⟨hc1, hc2⟩ := AllTrue.append hc
           rw [if_pos hwt]
           refine .inl (Oper.wp_mono ?_ (evOp_wp K H.mem hG H.slots h1 h2.symm hc1))
           rintro a' w' ⟨u, rfl, hdone⟩
           obtain ⟨ι', q1, q2, q3⟩ := H.done hdone (dstOk_lt hd)
           refine hk ι' _ _ ?_ ⟨q2, lowL_same hlow q3⟩
           have hents : updAll σ' (killEn out.kill s.σ ++ out.upd) = Go.Sw.after σ' out := by
            unfold Go.Sw.after
            rw [updAll_app]
            funext id
            by_cases hin : id ∈ out.upd.map (·.1)
            ·exact updAll_in hin
            ·rw [updAll_ne hin, updAll_ne hin]
             cases hkl : out.kill with
             | nil => simp only [killP_nil, killE_none, updAll, killEn]
             | cons k0 kr =>
               simp only [killEn]
               by_cases hin2 : id ∈ (killEnts (k0 :: kr) (uniqE s.σ [])).map (·.1)
               ·have hsame : getE s.σ id = σ' id := hσ id (by
                 rw [hkl]
                 simp only [List.mem_cons, List.mem_append, List.map_append, killEn]
                 exact .inr (.inr (.inr (.inl hin2))))
                rcases updAll_from (σ := fun _ => none) (us := killEnts (k0 :: kr) (uniqE s.σ [])) (k := id) with hf | ⟨e, hf, hm⟩
                ·exfalso
                 have := updAll_in (σ := fun _ => none) (σ' := fun _ => some (.box 0 .vnil)) hin2
                 rcases updAll_from (σ := fun _ => some (E.box 0 .vnil)) (us := killEnts (k0 :: kr) (uniqE s.σ [])) (k := id) with hg | ⟨e, hg, _⟩
                 ·rw [hf, hg] at this; cases this
                 ·rw [hf, hg] at this; cases this
                ·rw [updAll_in (σ' := fun _ => none) hin2, hf]
                 obtain ⟨e0, he0, rfl⟩ := killEnts_mem hm
                 have := (uniqE_mem he0).2
                 rw [hsame] at this
                 unfold killE
                 rw [this]
                 rfl
               ·rw [updAll_ne hin2]
                unfold killE
                cases hs' : σ' id with
                | none => rfl
                | some e =>
                  have := cσ (by rw [hkl]; simp) id e (by
                   rw [hkl]
                   simp only [List.map_append, List.mem_append, not_or, killEn]
                   exact ⟨hin2, hin⟩) hs'
                  rw [hkl] at this
                  rw [Option.map_some, E.kill_not this]
           rw [hents]
           refine ⟨q1.defers, q1.size, fun t => ?_, q1.ents, q1.dead, q1.inj, q1.foreign⟩
           have hq := q1.slots t
           rw [updVs_app, hput, decideV_sound hc2]
           by_cases hdt : o.dst = some t
           ·rw [hdt] at hq ⊢
            simpa [updV] using hq
           ·rw [updV_ne1 hdt]
            rw [updV_ne1 hdt] at hq
            cases hkl : out.kill with
            | nil =>
              rw [hkl] at hq
              simp only [killP_nil, V.kill_none] at hq
              exact hq
            | cons k0 kr =>
              simp only [killSl]
              by_cases hin : t ∈ (killSlots (k0 :: kr) s.Γ).map (·.1)
              ·rw [updVs_un killSlots_un hin]; trivial
              ·rw [updVs_ne hin]
               have hnot := cγ (by rw [hkl]; simp) t (by
                rw [hkl]
                simp only [List.map_append, List.mem_append, not_or, killSl]
                refine ⟨hin, fun hm => hdt ?_⟩
                cases hdd : o.dst with
                | none => rw [hdd] at hm; simp [optD] at hm
                | some d => rw [hdd] at hm; simp [optD] at hm; rw [hm])
               rw [V.kill_not hnot] at hq
               exact hq
          ·cases h
 ·cases h
def tkAt (ts : List Tk) (i : Nat) : Tk := ts.getD i ⟨⟨[], []⟩, [], [], []⟩
theorem evTks_spec : ∀ (m i : Nat) (s s' : St) (ts : List Tk) (γ : Nat → V) (σ : Nat → Option E) (pre : List Tk), pre.length = i → evTks P X n ops hs base m i s = some (ts, s') →
 (getV s.Γ = gam γ (fun j => (tkAt (pre ++ ts) j).tr) (fun _ => true) i) → (getE s.σ = sig σ (fun j => (tkAt (pre ++ ts) j).tr) (fun _ => true) i) →
 ts.length = m ∧ (∀ j, i ≤ j → j < i + m → ∃ sj : St, getV sj.Γ = gam γ (fun j => (tkAt (pre ++ ts) j).tr) (fun _ => true) j ∧ getE sj.σ = sig σ (fun j => (tkAt (pre ++ ts) j).tr) (fun _ => true) j ∧ evTk P X n ops hs base j sj = some (tkAt (pre ++ ts) j)) ∧
 getV s'.Γ = gam γ (fun j => (tkAt (pre ++ ts) j).tr) (fun _ => true) (i + m) ∧ getE s'.σ = sig σ (fun j => (tkAt (pre ++ ts) j).tr) (fun _ => true) (i + m) := by
 intro m
 induction m with
 | zero =>
   intro i s s' ts γ σ pre hp h hγ hσ
   obtain ⟨rfl, rfl⟩ := Prod.mk.inj (Option.some.inj h)
   exact ⟨rfl, fun j h1 h2 => by omega, hγ, hσ⟩
 | succ m ih =>
   intro i s s' ts γ σ pre hp h hγ hσ
   rw [evTks] at h
   cases h1 : evTk P X n ops hs base i s with
   | none => rw [h1] at h; cases h
   | some k =>
     rw [h1] at h
     simp only at h
     cases h2 : evTks P X n ops hs base m (i + 1) (s.tr k.tr) with
     | none => rw [h2] at h; cases h
     | some q =>
       obtain ⟨ts', s2⟩ := q
       rw [h2] at h
       obtain ⟨rfl, rfl⟩ := Prod.mk.inj (Option.some.inj h)
       have hcat : pre ++ k :: ts' = (pre ++ [k]) ++ ts' := by simp
       have hat : tkAt (pre ++ k :: ts') i = k := by
        subst hp
        simp [tkAt, List.getElem?_append_right]
       have := ih (i + 1) (s.tr k.tr) s2 ts' γ σ (pre ++ [k]) (by simp [hp]) h2
       rw [← hcat] at this
       obtain ⟨l1, l2, l3, l4⟩ := this (by
        rw [gam, hat, ← hγ]
        unfold St.tr
        rw [puts_Γ, upd_Γ]
        simp) (by
        rw [sig, hat, ← hσ]
        unfold St.tr
        rw [puts_σ, upd_σ]
        simp)
       refine ⟨by simp [l1], fun j hj1 hj2 => ?_, ?_, ?_⟩
       ·by_cases hj : j = i
        ·subst hj
         exact ⟨s, hγ, hσ, by rw [hat]; exact h1⟩
        ·exact l2 j (by omega) (by omega)
       ·rw [l3]; congr 1; omega
       ·rw [l4]; congr 1; omega
end
end Go.Sw

namespace Go.Sw
section
variable {P : Program} {X : Ctx} {F : Nat → Prop} {n : Nat} {ops : Array Oper} {hs : List (Nat × Hint)} {base : Nat}
def lstB (l : Array Bool) : Nat → Bool := fun j => l.getD j false
theorem lstB_set {l : Array Bool} {i : Nat} (hi : i < l.size) : lstB (l.setIfInBounds i true) = setB (lstB l) i := by
 funext j
 unfold lstB setB
 by_cases h : j = i
 ·subst h
  simp [hi]
 ·rw [getD_set_ne false (Ne.symm h)]
  simp [h]
theorem depsOf_mem {o : Oper} {e : Edge} (h : e ∈ o.after) (hb : Region.binds .any e = true) : e.on ∈ depsOf o := by
 unfold depsOf
 rw [List.mem_map]
 exact ⟨e, by rw [List.mem_filter]; exact ⟨by simpa using h, hb⟩, rfl⟩
theorem mem_depsOf {o : Oper} {x : Nat} (h : x ∈ depsOf o) : ∃ e ∈ o.after, Region.binds .any e = true ∧ e.on = x := by
 unfold depsOf at h
 rw [List.mem_map] at h
 obtain ⟨e, he, rfl⟩ := h
 rw [List.mem_filter] at he
 exact ⟨e, by simpa using he.1, he.2, rfl⟩
theorem count_false_set {l : Array Bool} {i : Nat} (hi : i < l.size) (hl : l.getD i false = false) : (l.setIfInBounds i true).toList.count false + 1 = l.toList.count false := by
 have h1 : l.toList[i]'(by simpa using hi) = false := by
  have : l.getD i false = l[i] := by simp [hi]
  rw [this] at hl
  simpa using hl
 have h2 : (l.setIfInBounds i true).toList = l.toList.set i true := by simp [Array.toList_setIfInBounds]
 have h3 : 0 < l.toList.count false := by
  rw [List.count_pos_iff]
  rw [← h1]
  exact List.getElem_mem _
 rw [h2, List.count_set (by simpa using hi), h1]
 simp only [beq_self_eq_true, if_true]
 have : ((true == false) = true) = False := by decide
 simp only [this, if_false]
 omega
theorem getV_from : ∀ {Γ : List (Nat × V)} {t : Nat}, getV Γ t = .un ∨ (t, getV Γ t) ∈ Γ := by
 intro Γ
 induction Γ with
 | nil => intro t; exact .inl rfl
 | cons p Γ ih =>
   intro t
   obtain ⟨k, v⟩ := p
   rw [getV]
   by_cases h : k = t
   ·subst h; right; rw [if_pos rfl]; simp
   ·rw [if_neg h]
    rcases ih (t := t) with h1 | h1
    ·exact .inl h1
    ·exact .inr (List.mem_cons_of_mem _ h1)
theorem getE_from : ∀ {σ : List (Nat × E)} {id : Nat} {e : E}, getE σ id = some e → (id, e) ∈ σ := by
 intro σ
 induction σ with
 | nil => intro id e h; cases h
 | cons p σ ih =>
   intro id e h
   obtain ⟨k, x⟩ := p
   rw [getE] at h
   split at h
   ·rename_i hk; subst hk; obtain rfl := Option.some.inj h; simp
   ·exact List.mem_cons_of_mem _ (ih h)
theorem any_main (K : TyOk P X) (hops : DstLt ops n) {M : List Nat} {t : Nat → Tk} {s0 : St} (O : Ord ops s0 M t) {γ0 : Nat → V} {σ0 : Nat → Option E} (hγ0 : γ0 = getV s0.Γ) (hσ0 : σ0 = getE s0.σ)
 (ht : ∀ j, j < ops.size → ∃ sj : St, getV sj.Γ = gam γ0 (fun j => (t j).tr) (fun _ => true) j ∧ getE sj.σ = sig σ0 (fun j => (t j).tr) (fun _ => true) j ∧ evTk P X n ops hs base j sj = some (t j))
 (hc : ∀ j, j < ops.size → AllTrue (t j).c) {Q : Exit → Act → World → Prop} {ι0 : Nat → Loc} {w0 : World} (hG0 : Gl P F ι0 w0)
 (hk : ∀ ι a w, Holds F n (gam γ0 (fun j => (t j).tr) (fun _ => true) ops.size) (sig σ0 (fun j => (t j).tr) (fun _ => true) ops.size) ι a w → ExtA ι0 w0 ι w → Q .normal a w) :
 ∀ (fuel : Nat) (l : Array Bool) (ι : Nat → Loc) (a : Act) (w : World), l.size = ops.size → l.toList.count false ≤ fuel → (∀ i j, j < i → lstB l i = true → (M.getD i 0).testBit j = true → lstB l j = true) →
  Holds F n (gam γ0 (fun j => (t j).tr) (lstB l) ops.size) (sig σ0 (fun j => (t j).tr) (lstB l) ops.size) ι a w → ExtA ι0 w0 ι w → wpAny P .any ops Q fuel l a w := by
 have full : ∀ l : Array Bool, l.size = ops.size → Region.ready .any ops l = [] → ∀ i, i < ops.size → lstB l i = true := by
  intro l hl hr i
  induction i using Nat.strongRecOn with
  | _ i ih =>
    intro hi
    cases hb : lstB l i with
    | true => rfl
    | false =>
      exfalso
      have : i ∈ Region.ready .any ops l := by
       rw [mem_ready]
       refine ⟨?_, ops[i], by simp [hi], fun e he hbd => ?_⟩
       ·have : i < l.size := by omega
        unfold lstB at hb
        simp [this] at hb ⊢
        exact hb
       ·have hlt := O.low i ops[i] (by simp [hi]) _ (depsOf_mem he hbd)
        exact ih e.on hlt (by omega)
      rw [hr] at this
      cases this
 have fin : ∀ (l : Array Bool) ι a w, l.size = ops.size → Holds F n (gam γ0 (fun j => (t j).tr) (lstB l) ops.size) (sig σ0 (fun j => (t j).tr) (lstB l) ops.size) ι a w → ExtA ι0 w0 ι w → Region.ready .any ops l = [] → Q .normal a w := by
  intro l ι a w hl H e hr
  have hfull := full l hl hr
  refine hk ι a w ?_ e
  have h1 : gam γ0 (fun j => (t j).tr) (lstB l) ops.size = gam γ0 (fun j => (t j).tr) (fun _ => true) ops.size := funext fun x => gam_congr _ fun j hj _ => hfull j hj
  have h2 : sig σ0 (fun j => (t j).tr) (lstB l) ops.size = sig σ0 (fun j => (t j).tr) (fun _ => true) ops.size := funext fun x => sig_congr _ fun j hj _ => hfull j hj
  rw [h1, h2] at H
  exact H
 intro fuel
 induction fuel with
 | zero =>
   intro l ι a w hl hcount hclosed H e
   have hr : Region.ready .any ops l = [] := by
    cases hr : Region.ready .any ops l with
    | nil => rfl
    | cons x xs =>
      exfalso
      have hx : x ∈ Region.ready .any ops l := by rw [hr]; simp
      rw [mem_ready] at hx
      obtain ⟨h1, o, ho, _⟩ := hx
      have hxlt : x < l.size := by rw [hl]; exact (Array.getElem?_eq_some_iff.1 ho).1
      have h2 : l.toList[x]'(by simpa using hxlt) = false := by simpa [hxlt] using h1
      have : 0 < l.toList.count false := by
       rw [List.count_pos_iff, ← h2]
       exact List.getElem_mem _
      omega
   exact ⟨hr, fin l ι a w hl H e hr⟩
 | succ fuel ih =>
   intro l ι a w hl hcount hclosed H e
   refine ⟨fin l ι a w hl H e, fun i hi => ?_⟩
   rw [mem_ready] at hi
   obtain ⟨h1, oi, hoi, hdeps⟩ := hi
   have hilt : i < ops.size := (Array.getElem?_eq_some_iff.1 hoi).1
   have hilt' : i < l.size := by omega
   have hSi : lstB l i = false := by
    unfold lstB
    simpa [hilt'] using h1
   have hbef : ∀ j, j < i → (M.getD i 0).testBit j = true → lstB l j = true := by
    intro j hj hb
    obtain ⟨x, hx, hcase⟩ := O.path i oi j hoi hj hb
    obtain ⟨ed, hed, hbd, rfl⟩ := mem_depsOf hx
    have hl1 : lstB l ed.on = true := hdeps ed hed hbd
    rcases hcase with h | h
    ·rw [← h]; exact hl1
    ·by_cases hje : j < ed.on
     ·exact hclosed ed.on j hje hl1 h
     ·have hlow := O.low i oi hoi _ hx
      obtain ⟨oe, hoe⟩ : ∃ oe, ops[ed.on]? = some oe := ⟨ops[ed.on]'(by omega), by simp [show ed.on < ops.size by omega]⟩
      have hbits := O.bits ed.on oe hoe
      have : (M.getD ed.on 0).testBit j = false := Nat.testBit_lt_two_pow (Nat.lt_of_lt_of_le hbits (Nat.pow_le_pow_right (by omega) (by omega)))
      rw [this] at h
      cases h
   have hap : ∀ j, j < ops.size → j ≠ i → ∀ oj, ops[j]? = some oj → (lstB l j = decide (j < i)) ∨ (j < i ∧ clash ops oj oi (t j) (t i) = false) ∨ (i < j ∧ clash ops oi oj (t i) (t j) = false) := by
    intro j hj hne oj hoj
    by_cases hlt : j < i
    ·cases hb : (M.getD i 0).testBit j with
     | true => left; rw [hbef j hlt hb]; simp [hlt]
     | false => right; left; exact ⟨hlt, O.apart i j oi oj hoi hoj hlt hb⟩
    ·have hgt : i < j := by omega
     cases hb : (M.getD j 0).testBit i with
     | true =>
       left
       cases hSj : lstB l j with
       | false => simp [hlt]
       | true =>
         have := hclosed j i hgt hSj hb
         rw [hSi] at this
         cases this
     | false => right; right; exact ⟨hgt, O.apart j i oj oi hoj hoi hgt hb⟩
   have split4 : ∀ {a b : Oper} {ka kb : Tk}, clash ops a b ka kb = false → meets (ka.tr.ds.map (·.1)) (readsOf ops b) = false ∧ meets (ka.tr.ds.map (·.1)) (kb.tr.ds.map (·.1)) = false ∧ meets (kb.tr.ds.map (·.1)) (readsOf ops a) = false ∧ meets (ka.tr.us.map (·.1)) kb.ids = false ∧ meets (kb.tr.us.map (·.1)) ka.ids = false := by
    intro a b ka kb h
    unfold clash at h
    simp only [Bool.or_eq_false_iff] at h
    exact ⟨h.1.1.1.1, h.1.1.1.2, h.1.1.2, h.1.2, h.2⟩
   have getop : ∀ j, j < ops.size → ∃ oj, ops[j]? = some oj := fun j hj => ⟨ops[j], by simp [hj]⟩
   obtain ⟨sj, hsγ, hsσ, hev⟩ := ht i hilt
   have usIds : ∀ j, j < ops.size → ∀ x ∈ (t j).tr.us.map (·.1), x ∈ (t j).ids := by
    intro j hj x hx
    obtain ⟨sj, _, _, this⟩ := ht j hj
    unfold evTk at this
    split at this
    ·cases this
    ·split at this
     ·split at this
      ·split at this
       ·cases this
       ·split at this
        ·split at this
         ·rw [← Option.some.inj this] at hx ⊢
          exact List.mem_cons_of_mem _ (List.mem_append_right _ (List.mem_append_right _ hx))
         ·cases this
        ·cases this
      ·rw [← Option.some.inj this] at hx
       simp at hx
      ·cases this
     ·cases this
   refine evTk_use K hops hoi hev (hc i hilt) (fun x hx => ?_) (fun x hx => ?_) (fun hne x hx => ?_) (fun hne id e hid hσe => ?_) H (hG0.ext e.ext) fun ι1 a1 w1 H1 e1 => ?_
   ·rw [hsγ, ← gam_below ops.size (Nat.le_of_lt hilt)]
    refine (gam_congr _ fun j hj hw => ?_).symm
    by_cases hji : j = i
    ·subst hji; rw [hSi]; simp
    ·obtain ⟨oj, hoj⟩ := getop j hj
     rcases hap j hj hji oj hoj with h | ⟨h, hcl⟩ | ⟨h, hcl⟩
     ·exact h
     ·exact absurd hx (meets_mem (split4 hcl).1 hw)
     ·exact absurd hx (meets_mem (split4 hcl).2.2.1 hw)
   ·rw [hsσ, ← sig_below ops.size (Nat.le_of_lt hilt)]
    refine (sig_congr _ fun j hj hw => ?_).symm
    by_cases hji : j = i
    ·subst hji; rw [hSi]; simp
    ·obtain ⟨oj, hoj⟩ := getop j hj
     rcases hap j hj hji oj hoj with h | ⟨h, hcl⟩ | ⟨h, hcl⟩
     ·exact h
     ·exact absurd hx (meets_mem (split4 hcl).2.2.2.1 hw)
     ·exact absurd hx (meets_mem (split4 hcl).2.2.2.2 hw)
   ·obtain ⟨c1, c2, c3⟩ := O.cov i oi hoi hne
    cases hb : (gam γ0 (fun j => (t j).tr) (lstB l) ops.size x).has (t i).ks with
    | false => rfl
    | true =>
      exfalso
      rcases gam_from (γ := γ0) (tr := fun j => (t j).tr) (S := lstB l) (t := x) ops.size with h | ⟨j, hj, hSj, hm⟩
      ·rw [h, hγ0] at hb
       rcases getV_from (Γ := s0.Γ) (t := x) with h1 | h1
       ·rw [h1] at hb; cases hb
       ·exact hx (c1 _ h1 hb)
      ·have hji : j ≠ i := fun e => by subst e; rw [hSi] at hSj; cases hSj
       rcases c3 j hj hji with ⟨h1, h2⟩ | ⟨h1, _⟩
       ·have := hclosed j i h1 hSj h2
        rw [hSi] at this
        cases this
       ·exact hx (h1 _ hm hb)
   ·obtain ⟨c1, c2, c3⟩ := O.cov i oi hoi hne
    cases hb : e.has (t i).ks with
    | false => rfl
    | true =>
      exfalso
      rcases sig_from (σ := σ0) (tr := fun j => (t j).tr) (S := lstB l) (k := id) ops.size with h | ⟨j, e', hj, hSj, he', hm⟩
      ·rw [h, hσ0] at hσe
       exact hid (c2 _ (getE_from hσe) hb)
      ·rw [hσe] at he'
       obtain rfl := Option.some.inj he'
       have hji : j ≠ i := fun e => by subst e; rw [hSi] at hSj; cases hSj
       rcases c3 j hj hji with ⟨h1, h2⟩ | ⟨_, h1⟩
       ·have := hclosed j i h1 hSj h2
        rw [hSi] at this
        cases this
       ·exact hid (h1 _ hm hb)
   refine ih (l.setIfInBounds i true) ι1 a1 w1 (by simp [hl]) ?_ ?_ ?_ (e.trans e1)
   ·have := count_false_set hilt' hSi
    omega
   ·intro x j hj hx hb
    rw [lstB_set hilt'] at hx ⊢
    unfold setB at hx ⊢
    simp only [Bool.or_eq_true, decide_eq_true_eq] at hx ⊢
    rcases hx with rfl | hx
    ·exact .inr (hbef j hj hb)
    ·exact .inr (hclosed x j hj hx hb)
   ·rw [lstB_set hilt']
    have later : ∀ j, i < j → j < ops.size → lstB l j = true → ∃ oj, ops[j]? = some oj ∧ clash ops oi oj (t i) (t j) = false := by
     intro j h1 h2 h3
     obtain ⟨oj, hoj⟩ := getop j h2
     rcases hap j h2 (by omega) oj hoj with h | ⟨h, _⟩ | ⟨_, hcl⟩
     ·rw [h3] at h
      simp at h
      omega
     ·omega
     ·exact ⟨oj, hoj, hcl⟩
    have g1 := gam_add (γ := γ0) (tr := fun j => (t j).tr) (S := lstB l) hilt hSi (by
     intro j d h1 h2 h3 hd hd'
     obtain ⟨oj, _, hcl⟩ := later j h1 h2 h3
     exact meets_mem (split4 hcl).2.1 hd hd')
    have g2 := sig_add (σ := σ0) (tr := fun j => (t j).tr) (S := lstB l) hilt hSi (by
     intro j k h1 h2 h3 hk hk'
     obtain ⟨oj, _, hcl⟩ := later j h1 h2 h3
     exact meets_mem (split4 hcl).2.2.2.1 hk (usIds j h2 k hk'))
    rw [g1, g2]
    exact H1
def evRegD (P : Program) (X : Ctx) (n : Nat) (ops : Array Oper) (hs : List (Nat × Hint)) (base : Nat) (ts ids : List Nat) (s : St) : Option (St × List Cnd) :=
 if dstLt ops n = true then
  match evTks P X n ops hs base ops.size 0 s with
  | some q => if ordOk ops s (masks ops.toList []) q.1 = true then (match q.2.keep ts ids with | some s' => some (s', (q.1.map (·.c)).flatten) | none => none) else none
  | none => none
 else none
theorem AllTrue.flat : ∀ {ls : List (List Cnd)}, AllTrue ls.flatten → ∀ l ∈ ls, AllTrue l := by
 intro ls
 induction ls with
 | nil => intro _ l h; cases h
 | cons x xs ih =>
   intro h l hl
   rw [List.flatten_cons] at h
   obtain ⟨h1, h2⟩ := AllTrue.append h
   rcases List.mem_cons.1 hl with rfl | hl
   ·exact h1
   ·exact ih h2 l hl
variable {K : Ex → St → Prop} {s : St}
theorem Run.regionD (hT : TyOk P X) {id : Nat} {ops : Array Oper} (hs : List (Nat × Hint)) (base : Nat) (ts ids : List Nat) {s' : St} {c : List Cnd} (hev : evRegD P X n ops hs base ts ids s = some (s', c)) (hc : AllTrue c) (hk : K .nrm s') :
 Run P n (.region id ops true) s K := by
 intro F ι a w H hG
 unfold evRegD at hev
 split at hev
 ·rename_i hd
  cases he : evTks P X n ops hs base ops.size 0 s with
  | none => rw [he] at hev; cases hev
  | some q =>
    obtain ⟨tks, s1⟩ := q
    rw [he] at hev
    simp only at hev
    split at hev
    ·rename_i hord
     cases hkp : s1.keep ts ids with
     | none => rw [hkp] at hev; cases hev
     | some s2 =>
       rw [hkp] at hev
       obtain ⟨rfl, rfl⟩ := Prod.mk.inj (Option.some.inj hev)
       obtain ⟨l1, l2, l3, l4⟩ := evTks_spec ops.size 0 s s1 tks (getV s.Γ) (getE s.σ) [] rfl he rfl rfl
       simp only [List.nil_append, Nat.zero_add] at l2 l3 l4
       have htk : ∀ (i : Nat) (k : Tk), tks[i]? = some k → tkAt tks i = k := by
        intro i k h
        simp [tkAt, h]
       have O := ordOk_spec htk l1 hord
       refine wp_region_any hT.mixed ?_
       have hdrew := Turn.drew H.mem (w := w)
       have H0 : Holds F n (getV s.Γ) (getE s.σ) ι a w.drew :=
        ⟨H.defers, H.size, fun t => repV_same hdrew.stay hdrew.same (H.slots t), hdrew.mem.ents, hdrew.mem.dead, hdrew.mem.inj, hdrew.mem.foreign⟩
       refine any_main (F := F) hT (dstLt_spec hd) O (γ0 := getV s.Γ) (σ0 := getE s.σ) rfl rfl (fun j hj => l2 j (Nat.zero_le _) hj) (fun j hj => ?_) (ι0 := ι) (w0 := w.drew) (hG.ext hdrew.ext) (fun ι1 a1 w1 H1 e1 => ?_) ops.size _ ι a w.drew (by simp) ?_ ?_ ?_ (ExtA.refl _ _)
       ·refine AllTrue.flat hc _ (List.mem_map.2 ⟨tkAt tks j, ?_, rfl⟩)
        unfold tkAt
        have : j < tks.length := by omega
        simp [this]
       ·rw [← l3, ← l4] at H1
        obtain ⟨ι2, H2, e2⟩ := keep_sound hkp H1
        exact ⟨.nrm, s2, ι2, rfl, hk, H2, (ExtA.trans ⟨hdrew.ext, hdrew.same.weak fun _ _ => rfl⟩ e1).trans e2⟩
       ·refine Nat.le_trans List.count_le_length ?_
        simp
       ·intro i j hj hi
        exfalso
        unfold lstB at hi
        simp [Array.getElem?_replicate] at hi
        split at hi <;> simp at hi
       ·have h1 : ∀ j, lstB (Array.replicate ops.size false) j = false := by
         intro j
         unfold lstB
         simp [Array.getElem?_replicate]
         split <;> simp
        have h2 : ∀ m, gam (getV s.Γ) (fun j => (tkAt tks j).tr) (lstB (Array.replicate ops.size false)) m = getV s.Γ := by
         intro m
         induction m with
         | zero => rfl
         | succ m ih => rw [gam, h1, ih]; simp
        have h3 : ∀ m, sig (getE s.σ) (fun j => (tkAt tks j).tr) (lstB (Array.replicate ops.size false)) m = getE s.σ := by
         intro m
         induction m with
         | zero => rfl
         | succ m ih => rw [sig, h1, ih]; simp
        rw [h2, h3]
        exact H0
    ·cases hev
 ·cases hev
end
end Go.Sw

namespace Go.Sw
def sq1 : Code → Code
 | .seq a _ => a
 | _ => .skip
def sq2 : Code → Code
 | .seq _ b => b
 | _ => .skip
def cd1 : Code → Code
 | .cond _ a _ => a
 | _ => .skip
def cd2 : Code → Code
 | .cond _ _ b => b
 | _ => .skip
def bk1 : Code → Code
 | .block _ c => c
 | _ => .skip
def lp1 : Code → Code
 | .loop c => c
 | _ => .skip
def body0 (f : Func) : Code := match f.body with
 | some c => c
 | none => .skip
def isSeq : Code → Bool
 | .seq _ _ => true
 | _ => false
def isSkip : Code → Bool
 | .skip => true
 | _ => false
def isRet : Code → Bool
 | .ret => true
 | _ => false
def isLoop : Code → Bool
 | .loop _ => true
 | _ => false
def isExit (id : Nat) : Code → Bool
 | .exit k => k == id
 | _ => false
def isBlock (id : Nat) : Code → Bool
 | .block k _ => k == id
 | _ => false
def evAt (P : Program) (X : Ctx) (n : Nat) (c : Code) (hs : List (Nat × Hint)) (base : Nat) (ts ids : List Nat) (s : St) : Option (St × List Cnd) :=
 match c with
 | .region _ ops true => evRegD P X n ops hs base ts ids s
 | .region _ ops false => evReg P X n ops hs base ts ids s
 | _ => none
def condAt (c : Code) (s : St) : Option V :=
 match c with
 | .cond o _ _ => some (look (getV s.Γ) o)
 | _ => none
section
variable {P : Program} {X : Ctx} {n : Nat} {K : Ex → St → Prop} {s : St} {c : Code}
theorem Run.seqN (hs : isSeq c = true) (h : Run P n (sq1 c) s (thenK (fun s1 => Run P n (sq2 c) s1 K) K)) : Run P n c s K := by
 cases c <;> first | (cases hs; done) | exact Run.seq h
theorem Run.skipN (hs : isSkip c = true) (h : K .nrm s) : Run P n c s K := by
 cases c <;> first | (cases hs; done) | exact Run.skip h
theorem Run.retN (hs : isRet c = true) (h : K .ret s) : Run P n c s K := by
 cases c <;> first | (cases hs; done) | exact Run.ret h
theorem Run.exitN (id : Nat) (hs : isExit id c = true) (h : K (.out id) s) : Run P n c s K := by
 cases c <;> first | (cases hs; done) | skip
 simp [isExit] at hs
 subst hs
 exact Run.exit h
theorem Run.blockN (id : Nat) (hs : isBlock id c = true) (h : Run P n (bk1 c) s (inBlockK id K)) : Run P n c s K := by
 cases c <;> first | (cases hs; done) | skip
 simp [isBlock] at hs
 obtain rfl := hs
 exact Run.block h
theorem Run.loopN (hs : isLoop c = true) (J : Nat → St → Prop) (round : ∀ k s, J k s → Run P n (lp1 c) s (thenK (fun s1 => ∃ m, m < k ∧ J m s1) K)) (k : Nat) (h : J k s) : Run P n c s K := by
 cases c <;> first | (cases hs; done) | exact Run.loop J round k h
theorem Run.condN (b : Bool) (hb : condAt c s = some (.d .bool b)) (ht : b = true → Run P n (cd1 c) s K) (hf : b = false → Run P n (cd2 c) s K) : Run P n c s K := by
 cases c <;> first | (cases hb; done) | exact Run.cond b (Option.some.inj hb) ht hf
theorem Run.regE (hT : TyOk P X) (hs : List (Nat × Hint)) (base : Nat) (ts ids : List Nat) (s' : St) (cs : List Cnd) (hev : evAt P X n c hs base ts ids s = some (s', cs)) (hc : AllTrue cs) (hk : K .nrm s') : Run P n c s K := by
 cases c <;> first | (cases hev; done) | skip
 rename_i id ops d
 cases d with
 | true => exact Run.regionD hT hs base ts ids hev hc hk
 | false => exact Run.region hT hs base ts ids hev hc hk
theorem Run.regN (hT : TyOk P X) (hs : List (Nat × Hint)) (base : Nat) (ts ids : List Nat) (s' : St) (cs : List Cnd) (hq : isSeq c = true) (hev : evAt P X n (sq1 c) hs base ts ids s = some (s', cs)) (hc : AllTrue cs) (hk : Run P n (sq2 c) s' K) : Run P n c s K :=
 Run.seqN hq (Run.regE hT hs base ts ids s' cs hev hc hk)
theorem callPureN (hT : TyOk P X) {f : FuncId} {fn : Func} (c : Code) (n : Nat) (rv : List ResultVar) (tys : List TypeId) (hf : P.funcs[f]? = some fn) (hb : fn.body = some c) (hn : fn.ntmps = n) (hrv : fn.results.toList = rv)
 {args : List V} {r : V} (hl : args.length ≤ n) (hpa : args.all V.pure = true) (hp : r.pure = true) (h : Run P n c (St.enter args) (endK X rv tys r)) : CallPure P f args r := by
 subst hn hrv
 exact callPure_of_run hT hf hb hl hpa hp h
theorem callOwnN (hT : TyOk P X) {f : FuncId} {fn : Func} (c : Code) (n : Nat) (rv : List ResultVar) (hf : P.funcs[f]? = some fn) (hb : fn.body = some c) (hn : fn.ntmps = n) (hrv : fn.results.toList = rv)
 {args : List V} {el : Nat} {te : T} {l : List te.D} (hl : args.length ≤ n) (h : Run P n c (St.enter args) (endO X rv el te l)) : CallOwn P f args el te l := by
 subst hn hrv
 exact callOwn_of_run hT hf hb hl h
theorem callStN (hT : TyOk P X) {f : FuncId} {fn : Func} (c : Code) (n : Nat) (rv : List ResultVar) (tys : List TypeId) (hf : P.funcs[f]? = some fn) (hb : fn.body = some c) (hn : fn.ntmps = n) (hrv : fn.results.toList = rv)
 {args : List V} {σi σo : List (Nat × E)} {r : V} (hl : args.length ≤ n) (hp : r.pure = true) (h : Run P n c ⟨args0 0 args, σi⟩ (endS X rv tys r σo)) : CallSt P f args σi r σo := by
 subst hn hrv
 exact callSt_of_run hT hf hb hl hp h
end
theorem getD_out {α : Type} {l : List α} {i : Nat} (d : α) (x : Unit := ()) (h : l.length ≤ i) : l.getD i d = d := by
 rw [List.getD_eq_getElem?_getD, List.getElem?_eq_none h]; rfl
theorem TyOk.of {P : Program} {X : Ctx} (N : Nat) (h : (List.range N).all (fun i => fnOk P X i && tyOk P X i && scOk P X i && arOk P X i && eqOk P X i) = true)
 (hN : ∀ i, N ≤ i → X.fn i = false ∧ X.ty i = none ∧ X.sc i = false ∧ X.eq i = false) (hm : P.follows .mixedOrders = true) : TyOk P X := by
 have key : ∀ i, fnOk P X i = true ∧ tyOk P X i = true ∧ scOk P X i = true ∧ arOk P X i = true ∧ eqOk P X i = true := by
  intro i
  by_cases hi : i < N
  ·have := List.all_eq_true.1 h i (List.mem_range.2 hi)
   simp only [Bool.and_eq_true] at this
   exact ⟨this.1.1.1.1, this.1.1.1.2, this.1.1.2, this.1.2, this.2⟩
  ·obtain ⟨h1, h2, h3, h4⟩ := hN i (by omega)
   refine ⟨by unfold fnOk; rw [h1]; rfl, by unfold tyOk; rw [h2], by unfold scOk; rw [h3]; rfl, by unfold arOk; rw [h2]; rfl, by unfold eqOk; rw [h4]; rfl⟩
 exact ⟨fun i => (key i).2.2.2.2, fun i => (key i).1, fun i => (key i).2.1, fun i => (key i).2.2.1, fun i => (key i).2.2.2.1, hm⟩
section
variable {P : Program} {X : Ctx} {n : Nat} {K : Ex → St → Prop} {s : St} {c : Code}
def AllP : List Prop → Prop
 | [] => True
 | p :: ps => p ∧ AllP ps
theorem aN : AllP [] := trivial
theorem aC {p : Prop} {r : List Prop} (h : p) (hr : AllP r) : AllP (p :: r) := ⟨h, hr⟩
theorem AllP.true : ∀ {cs : List Cnd}, AllP (cs.map Cnd.q) → AllTrue cs := by
 intro cs
 induction cs with
 | nil => intro _; trivial
 | cons c cs ih => intro h; exact ⟨h.1, ih h.2⟩
def evAtP (P : Program) (X : Ctx) (n : Nat) (c : Code) (hs : List (Nat × Hint)) (base : Nat) (ts ids : List Nat) (s : St) : Option (St × List Prop) :=
 (evAt P X n c hs base ts ids s).map fun r => (r.1, r.2.map Cnd.q)
theorem evAtP_some {P : Program} {X : Ctx} {n : Nat} {c : Code} {hs : List (Nat × Hint)} {base : Nat} {ts ids : List Nat} {s s' : St} {cs : List Prop} (h : evAtP P X n c hs base ts ids s = some (s', cs)) (hc : AllP cs) :
 ∃ cs', evAt P X n c hs base ts ids s = some (s', cs') ∧ AllTrue cs' := by
 unfold evAtP at h
 cases hr : evAt P X n c hs base ts ids s with
 | none => rw [hr] at h; cases h
 | some r =>
   rw [hr] at h
   obtain ⟨rfl, rfl⟩ := Prod.mk.inj (Option.some.inj h)
   exact ⟨r.2, rfl, AllP.true hc⟩
theorem sI {α : Type} {a b : α} (h : some a = some b) : a = b := Option.some.inj h
theorem Run.rE (hT : TyOk P X) (hs : List (Nat × Hint)) (base : Nat) (ts ids : List Nat) (s' : St) {cs : List Prop} (hc : AllP cs) (hk : K .nrm s') (hev : evAtP P X n c hs base ts ids s = some (s', cs) := by kernel_rfl) : Run P n c s K := by
 obtain ⟨cs', h1, h2⟩ := evAtP_some hev hc
 exact Run.regE hT hs base ts ids s' cs' h1 h2 hk
theorem Run.rN (hT : TyOk P X) (hs : List (Nat × Hint)) (base : Nat) (ts ids : List Nat) (s' : St) {cs : List Prop} (hc : AllP cs) (hk : Run P n (sq2 c) s' K) (hq : isSeq c = true := by kernel_rfl) (hev : evAtP P X n (sq1 c) hs base ts ids s = some (s', cs) := by kernel_rfl) : Run P n c s K := by
 obtain ⟨cs', h1, h2⟩ := evAtP_some hev hc
 exact Run.regN hT hs base ts ids s' cs' hq h1 h2 hk
theorem Run.sq (h : Run P n (sq1 c) s (thenK (fun s1 => Run P n (sq2 c) s1 K) K)) (hs : isSeq c = true := by kernel_rfl) : Run P n c s K := Run.seqN hs h
theorem Run.sk (h : K .nrm s) (hs : isSkip c = true := by kernel_rfl) : Run P n c s K := Run.skipN hs h
theorem Run.rt (h : K .ret s) (hs : isRet c = true := by kernel_rfl) : Run P n c s K := Run.retN hs h
theorem Run.ex (id : Nat) (h : K (.out id) s) (hs : isExit id c = true := by kernel_rfl) : Run P n c s K := Run.exitN id hs h
theorem Run.bl (id : Nat) (h : Run P n (bk1 c) s (inBlockK id K)) (hs : isBlock id c = true := by kernel_rfl) : Run P n c s K := Run.blockN id hs h
theorem Run.cd (b : Bool) (ht : b = true → Run P n (cd1 c) s K) (hf : b = false → Run P n (cd2 c) s K) (hb : condAt c s = some (.d .bool b) := by kernel_rfl) : Run P n c s K := Run.condN b hb ht hf
theorem Run.kp {s' : St} (ts ids : List Nat) (hr : Run P n c s' K) (h : s.keep ts ids = some s' := by kernel_rfl) : Run P n c s K := Run.keep ts ids h hr
end
def gd {α : Type} (p : Prop) [Decidable p] (k : Option α) : Option α := if p then k else none
theorem gd_elim {α : Type} {p : Prop} [Decidable p] {k : Option α} {r : α} (h : gd p k = some r) : p ∧ k = some r := by
 unfold gd at h
 split at h
 ·rename_i hp; exact ⟨hp, h⟩
 ·cases h
theorem bnd_elim {α β : Type} {a : Option α} {k : α → Option β} {r : β} (h : a.bind k = some r) : ∃ x, a = some x ∧ k x = some r := by
 cases a with
 | none => cases h
 | some x => exact ⟨x, rfl, h⟩
theorem bif_elim {α : Type} {b : Bool} {x y : Option α} {r : α} (h : (bif b then x else y) = some r) : (b = true ∧ x = some r) ∨ (b = false ∧ y = some r) := by
 cases b with
 | true => exact .inl ⟨rfl, h⟩
 | false => exact .inr ⟨rfl, h⟩
theorem bif_t {α : Type} {b : Bool} {x y : Option α} {r : α} (h : (bif b then x else y) = some r) (hb : b = true) : x = some r := by subst hb; exact h
theorem bif_f {α : Type} {b : Bool} {x y : Option α} {r : α} (h : (bif b then x else y) = some r) (hb : b = false) : y = some r := by subst hb; exact h
def valF (l : List Int) : Nat := l.foldr (fun x a => x.toNat + 1000000000 * a) 0
def loopF {S O : Type} (B : (S → Option O) → S → Option O) : Nat → S → Option O
 | 0, _ => none
 | k + 1, s => B (loopF B k) s
end Go.Sw

namespace Go.Sw
def okD : (t : T) → t.D → Prop
 | .bool, _ => True
 | .int k, n => k.min ≤ n ∧ n ≤ k.max
 | .str, s => (s.size : Int) ≤ 9223372036854775807
 | .con _, _ => True
 | .sl t, l => ∀ x ∈ (l : List t.D), okD t x
 | .st fs, x => okD fs x
 | .one t, x => okD t x
 | .cons t ts, x => okD t x.1 ∧ okD ts x.2
theorem okD_of_rep {I : Nat → Prop} {w : World} : ∀ {t : T} {x : t.D} {cs : List Value}, rep I w t x cs → okD t x := by
 intro t
 induction t with
 | bool => intro x cs h; trivial
 | int k => intro x cs h; rw [rep] at h; exact h.2
 | str => intro x cs h; rw [rep] at h; exact h.2
 | con n => intro x cs h; trivial
 | sl t ih =>
   intro x cs h
   rw [rep] at h
   obtain ⟨base, cap, _, _, _, h4⟩ := h
   intro y hy
   have hne : x ≠ [] := by intro e; rw [e] at hy; cases hy
   obtain ⟨b, o, es, _, _, _, hr⟩ := h4 hne
   have key : ∀ (l : List t.D) (es : List Value), repL (rep I w t) l es → ∀ y ∈ l, okD t y := by
    intro l
    induction l with
    | nil => intro es _ y hy; cases hy
    | cons z zs ihz =>
      intro es hr y hy
      obtain ⟨c1, c2, _, h1, h2⟩ := hr
      cases hy with
      | head => exact ih h1
      | tail _ hy => exact ihz _ h2 y hy
   exact key x es hr y hy
 | st fs ih => intro x cs h; rw [rep] at h; exact ih h
 | one t ih => intro x cs h; rw [rep] at h; exact ih h
 | cons t ts ih1 ih2 =>
   intro x cs h
   rw [rep] at h
   obtain ⟨c1, c2, _, h1, h2⟩ := h
   exact ⟨ih1 h1, ih2 h2⟩
def inHeap (w : World) (b : Nat) : Prop := b < w.heap.size
theorem cells_at {w : World} {base : Nat} {b o n : Nat} {cs : List Value} (h : w.cells? base ⟨b, o, none⟩ n = some cs) : cs.length = n ∧ At w b o cs := by
 unfold World.cells? at h
 split at h
 ·have key : ∀ (n o : Nat) (cs : List Value), ((List.range' 0 n).mapM fun i => w.cell? ((⟨b, o, none⟩ : Addr).add i)) = some cs → cs.length = n ∧ At w b o cs := by
   have key2 : ∀ (n k o : Nat) (cs : List Value), ((List.range' k n).mapM fun i => w.cell? ((⟨b, o, none⟩ : Addr).add i)) = some cs → cs.length = n ∧ At w b (o + k) cs := by
    intro n
    induction n with
    | zero => intro k o cs h; simp at h; subst h; exact ⟨rfl, At.nil _ _ _⟩
    | succ n ih =>
      intro k o cs h
      rw [List.range'_succ, List.mapM_cons] at h
      cases h1 : w.cell? ((⟨b, o, none⟩ : Addr).add k) with
      | none => rw [h1] at h; cases h
      | some v =>
        rw [h1] at h
        cases h2 : (List.range' (k + 1) n).mapM fun i => w.cell? ((⟨b, o, none⟩ : Addr).add i) with
        | none => erw [h2] at h; cases h
        | some vs =>
          erw [h2] at h
          obtain rfl := Option.some.inj h
          obtain ⟨e1, e2⟩ := ih _ _ _ h2
          refine ⟨by simp [e1], ?_⟩
          rw [addr_add] at h1
          intro j u hj
          cases j with
          | zero => simp at hj; subst hj; simpa using h1
          | succ j =>
            have := e2 j u (by simpa using hj)
            rw [← this]
            congr 2
            omega
   intro n o cs h
   simpa using key2 n 0 o cs h
  rw [List.range_eq_range'] at h
  exact key n o cs h
 ·cases h
theorem cells_spot {w : World} {base : Nat} {a : Addr} {n : Nat} {cs : List Value} (h : w.cells? base a n = some cs) (hn : 0 < n) : a.spot = none ∧ inHeap w a.block := by
 unfold World.cells? at h
 split at h
 ·obtain ⟨m, rfl⟩ : ∃ m, n = m + 1 := ⟨n - 1, by omega⟩
  rw [List.range_eq_range', List.range'_succ, List.mapM_cons] at h
  have e : a.add 0 = a := rfl
  rw [e] at h
  cases h1 : w.cell? a with
  | none => rw [h1] at h; cases h
  | some v =>
    unfold World.cell? at h1
    split at h1
    ·rename_i c t fr hb
     split at h1
     ·cases h1
     ·rename_i hs
      refine ⟨by simpa using hs, ?_⟩
      unfold inHeap
      exact (Array.getElem?_eq_some_iff.1 hb).1
    ·cases h1
 ·cases h
section
variable {P : Program} {X : Ctx}
theorem cellsOf_size (K : TyOk P X) {tid : Nat} {t : T} (h : X.ty tid = some t) : P.cellsOf tid = t.size := by
 obtain ⟨i, hi, hs, _⟩ := K.info h
 unfold Program.cellsOf
 rw [hi]
 exact hs
variable {H : Type} {enc : TypeId × Value → H} {w : World} {base : Nat} {spare : Nat → Bool} {held : Bool}
def T.noK : T → Bool
 | .con _ => false
 | .sl t => t.noK
 | .st fs => fs.noK
 | .one t => t.noK
 | .cons t ts => t.noK && ts.noK
 | _ => true
theorem trod_open (K : TyOk P X) : ∀ (t : T), t.noK = true →
 (∀ tid, X.ty tid = some t → ∀ fuel cs d ps, DataW.trod enc P w base spare held fuel tid cs = some (d, ps) → ∃ x : t.D, rep (inHeap w) w t x cs) ∧
 (∀ (fields : List Field) (off : Nat), fieldsOk X fields off t = true → ∀ fuel (cs : List Value) r,
   fields.mapM (fun f => DataW.trod enc P w base spare held fuel f.type ((cs.drop f.offset).take (P.cellsOf f.type))) = some r → cs.length = off + t.size → ∃ x : t.D, rep (inHeap w) w t x (cs.drop off)) ∧
 (∀ (te : T) (e n k : Nat), arrayOk te n t = true → X.ty e = some te → ∀ fuel (cs : List Value) r,
   (List.range' k n).mapM (fun i => DataW.trod enc P w base spare held fuel e ((cs.drop (i * P.cellsOf e)).take (P.cellsOf e))) = some r → cs.length = k * te.size + t.size → ∃ x : t.D, rep (inHeap w) w t x (cs.drop (k * te.size))) := by
 intro t
 induction t with
 | con n => intro hno; cases hno
 | bool =>
   intro hno
   refine ⟨fun tid ht fuel cs d ps h => ?_, fun fields off h => (by cases fields with | nil => cases h | cons _ r => cases r <;> cases h), fun te e n k h => (by cases n with | zero => cases h | succ n => cases n <;> cases h)⟩
   obtain ⟨de, hu, hs⟩ := K.und ht
   cases de <;> first | (cases hs; done) | skip
   cases fuel with
   | zero => cases h
   | succ fuel =>
     unfold DataW.trod at h
     rw [hu] at h
     split at h <;> first
      | (rename_i e1; cases e1; done)
      | (rename_i b e1; exact ⟨b, rfl⟩)
      | cases h
      | (exfalso; simp_all; done)
 | int k =>
   intro hno
   refine ⟨fun tid ht fuel cs d ps h => ?_, fun fields off h => (by cases fields with | nil => cases h | cons _ r => cases r <;> cases h), fun te e n k h => (by cases n with | zero => cases h | succ n => cases n <;> cases h)⟩
   obtain ⟨de, hu, hs⟩ := K.und ht
   cases de <;> first | (cases hs; done) | skip
   rename_i k0
   have hk : k0 = k := by simpa [shapeOk] using hs
   subst hk
   cases fuel with
   | zero => cases h
   | succ fuel =>
     unfold DataW.trod at h
     rw [hu] at h
     split at h <;> first
      | (rename_i e1; cases e1; done)
      | (rename_i k1 k' n e1
         obtain rfl : k0 = k1 := by simpa using e1
         simp only [Option.ite_none_right_eq_some] at h
         refine ⟨n, ?_⟩
         rw [rep]
         have hw := h.1.2
         simp only [Lit.wf, Bool.and_eq_true, decide_eq_true_eq] at hw
         exact ⟨by rw [h.1.1], hw⟩)
      | cases h
      | (exfalso; simp_all; done)
 | str =>
   intro hno
   refine ⟨fun tid ht fuel cs d ps h => ?_, fun fields off h => (by cases fields with | nil => cases h | cons _ r => cases r <;> cases h), fun te e n k h => (by cases n with | zero => cases h | succ n => cases n <;> cases h)⟩
   obtain ⟨de, hu, hs⟩ := K.und ht
   cases de <;> first | (cases hs; done) | skip
   cases fuel with
   | zero => cases h
   | succ fuel =>
     unfold DataW.trod at h
     rw [hu] at h
     split at h <;> first
      | (rename_i e1; cases e1; done)
      | (rename_i s e1
         simp only [Option.ite_none_right_eq_some] at h
         have hc := h.1
         unfold maxLen at hc
         exact ⟨s, by rw [rep]; exact ⟨rfl, by omega⟩⟩)
      | cases h
      | (exfalso; simp_all; done)
 | sl t ih =>
   intro hno
   replace ih := ih hno
   refine ⟨fun tid ht fuel cs d ps h => ?_, fun fields off h => (by cases fields with | nil => cases h | cons _ r => cases r <;> cases h), fun te e n k h => (by cases n with | zero => cases h | succ n => cases n <;> cases h)⟩
   obtain ⟨de, hu, hs⟩ := K.und ht
   cases de <;> first | (cases hs; done) | skip
   rename_i e
   have hs' : X.ty e = some t ∧ 0 < t.size := by
    simp only [shapeOk, Bool.and_eq_true, decide_eq_true_eq] at hs
    exact hs.1
   have hsz := cellsOf_size K hs'.1
   have rows : ∀ (fuel b o n k : Nat) elems, (List.range' k n).mapM (fun i => (w.cells? base ((⟨b, o, none⟩ : Addr).add (i * P.cellsOf e)) (P.cellsOf e)).bind (DataW.trod enc P w base spare held fuel e)) = some elems →
    ∃ l : List t.D, l.length = n ∧ ∃ es, At w b (o + k * t.size) es ∧ repL (rep (inHeap w) w t) l es := by
    intro fuel b o n
    induction n with
    | zero => intro k elems h; exact ⟨[], rfl, [], At.nil _ _ _, rfl⟩
    | succ n ihn =>
      intro k elems h
      rw [List.range'_succ, List.mapM_cons] at h
      cases h1 : w.cells? base ((⟨b, o, none⟩ : Addr).add (k * P.cellsOf e)) (P.cellsOf e) with
      | none => rw [h1] at h; cases h
      | some cs =>
        rw [h1] at h
        cases h2 : DataW.trod enc P w base spare held fuel e cs with
        | none =>
          rw [Option.bind_some, h2] at h
          cases h
        | some q =>
          obtain ⟨d1, p1⟩ := q
          cases h3 : (List.range' (k + 1) n).mapM (fun i => (w.cells? base ((⟨b, o, none⟩ : Addr).add (i * P.cellsOf e)) (P.cellsOf e)).bind (DataW.trod enc P w base spare held fuel e)) with
          | none =>
            simp only [Option.bind_some, h2] at h
            erw [h3] at h
            cases h
          | some vs =>
            obtain ⟨l, hl, es, hA, hr⟩ := ihn _ _ h3
            obtain ⟨x, hx⟩ := ih.1 e hs'.1 fuel cs d1 p1 h2
            rw [addr_add] at h1
            obtain ⟨g1, g2⟩ := cells_at h1
            refine ⟨x :: l, by simp [hl], cs ++ es, ?_, cs, es, rfl, hx, hr⟩
            rw [hsz] at g1 g2
            refine At.append g2 ?_
            rw [g1]
            rw [show o + k * t.size + t.size = o + (k + 1) * t.size from by rw [Nat.add_mul]; omega]
            exact hA
   cases fuel with
   | zero => cases h
   | succ fuel =>
     unfold DataW.trod at h
     rw [hu] at h
     split at h <;> first
      | (rename_i e1; cases e1; done)
      | (exact ⟨[], none, 0, rfl, Nat.le_refl _, by decide, fun h => absurd rfl h⟩)
      | (rename_i e2 a len cap e1
         obtain rfl : e = e2 := by simpa using e1
         simp only [Option.ite_none_right_eq_some] at h
         obtain ⟨⟨_, hc1, hc2⟩, h⟩ := h
         have hc3 : (cap : Int) ≤ 9223372036854775807 := by unfold maxLen at hc2; omega
         cases len with
         | zero => exact ⟨[], some a, cap, rfl, Nat.zero_le _, hc3, fun h => absurd rfl h⟩
         | succ len =>
           cases hm : (List.range (len + 1)).mapM (fun i => (w.cells? base (a.add (i * P.cellsOf e)) (P.cellsOf e)).bind (DataW.trod enc P w base spare held fuel e)) with
           | none => rw [hm] at h; cases h
           | some elems =>
             rw [List.range_eq_range'] at hm
             have hspot : a.spot = none ∧ inHeap w a.block := by
              have hm' := hm
              rw [List.range'_succ, List.mapM_cons] at hm'
              cases h1 : w.cells? base (a.add (0 * P.cellsOf e)) (P.cellsOf e) with
              | none => rw [h1] at hm'; cases hm'
              | some cs =>
                have := cells_spot h1 (by rw [hsz]; exact hs'.2)
                simpa [Addr.add] using this
             obtain ⟨b, o, sp⟩ := a
             obtain rfl : sp = none := hspot.1
             obtain ⟨l, hl, es, hA, hr⟩ := rows fuel b o _ _ _ hm
             refine ⟨l, some ⟨b, o, none⟩, cap, ?_, ?_, hc3, fun _ => ⟨b, o, es, rfl, hspot.2, by simpa using hA, hr⟩⟩
             ·rw [hl]
             ·rw [hl]; exact hc1)
      | cases h
      | (exfalso; simp_all; done)
 | st fs ih =>
   intro hno
   replace ih := ih hno
   refine ⟨fun tid ht fuel cs d ps h => ?_, fun fields off h => (by cases fields with | nil => cases h | cons _ r => cases r <;> cases h), fun te e n k h => (by cases n with | zero => cases h | succ n => cases n <;> cases h)⟩
   obtain ⟨de, hu, hs⟩ := K.und ht
   have hsz := cellsOf_size K ht
   cases de <;> first | (cases hs; done) | skip
   ·rename_i n e
    cases hte : X.ty e with
    | none => simp only [shapeOk, hte] at hs; cases hs
    | some te =>
    have hs' : arrayOk te n fs = true := by
     simp only [shapeOk, hte, Bool.and_eq_true] at hs
     exact hs.1
    cases fuel with
    | zero => cases h
    | succ fuel =>
      unfold DataW.trod at h
      rw [hu] at h
      have h' : (if cs.length = P.cellsOf tid then ((List.range n).mapM fun i => DataW.trod enc P w base spare held fuel e ((cs.drop (i * P.cellsOf e)).take (P.cellsOf e))).map fun xs => ((.agg (xs.map (·.1)) : DataW H), xs.flatMap (·.2)) else none) = some (d, ps) := by
       split at h <;> first
        | (rename_i e1; cases e1; done)
        | (rename_i e1
           obtain ⟨rfl, rfl⟩ : n = _ ∧ e = _ := by simpa using e1
           exact h)
        | (exfalso; simp_all; done)
      simp only [Option.ite_none_right_eq_some] at h'
      obtain ⟨hl, h'⟩ := h'
      cases hm : (List.range n).mapM fun i => DataW.trod enc P w base spare held fuel e ((cs.drop (i * P.cellsOf e)).take (P.cellsOf e)) with
      | none => rw [hm] at h'; cases h'
      | some r =>
        rw [List.range_eq_range'] at hm
        obtain ⟨x, hx⟩ := ih.2.2 te e n 0 hs' hte fuel cs r hm (by rw [hl, hsz]; simp [T.size])
        refine ⟨x, ?_⟩
        rw [rep]
        simpa using hx
   ·rename_i fields
    have hs' : fieldsOk X fields.toList 0 fs = true := by simpa [shapeOk] using hs
    cases fuel with
    | zero => cases h
    | succ fuel =>
      unfold DataW.trod at h
      rw [hu] at h
      have h' : (if cs.length = P.cellsOf tid then (fields.toList.mapM fun f => DataW.trod enc P w base spare held fuel f.type ((cs.drop f.offset).take (P.cellsOf f.type))).map fun xs => ((.agg (xs.map (·.1)) : DataW H), xs.flatMap (·.2)) else none) = some (d, ps) := by
       split at h <;> first
        | (rename_i e1; cases e1; done)
        | (rename_i e1
           obtain rfl : fields = _ := by simpa using e1
           exact h)
        | (exfalso; simp_all; done)
      simp only [Option.ite_none_right_eq_some] at h'
      obtain ⟨hl, h'⟩ := h'
      cases hm : fields.toList.mapM fun f => DataW.trod enc P w base spare held fuel f.type ((cs.drop f.offset).take (P.cellsOf f.type)) with
      | none => rw [hm] at h'; cases h'
      | some r =>
        obtain ⟨x, hx⟩ := ih.2.1 fields.toList 0 hs' fuel cs r hm (by rw [hl, hsz]; simp [T.size])
        refine ⟨x, ?_⟩
        rw [rep]
        simpa using hx
 | one t ih =>
   intro hno
   replace ih := ih hno
   refine ⟨fun tid ht fuel cs d ps h => ?_, fun fields off h fuel cs r hm hl => ?_, fun te e n k h hte fuel cs r hm hl => ?_⟩
   ·obtain ⟨de, hu, hs⟩ := K.und ht
    cases de <;> cases hs
   ·match fields, h, hm with
    | [f], h, hm =>
      simp only [fieldsOk, Bool.and_eq_true, beq_iff_eq, decide_eq_true_eq] at h
      obtain ⟨⟨h1, h2⟩, h3⟩ := h
      rw [List.mapM_cons] at hm
      cases h4 : DataW.trod enc P w base spare held fuel f.type ((cs.drop f.offset).take (P.cellsOf f.type)) with
      | none => rw [h4] at hm; cases hm
      | some q =>
        obtain ⟨x, hx⟩ := ih.1 f.type h2 fuel _ q.1 q.2 h4
        rw [cellsOf_size K h2, h1] at hx
        refine ⟨x, ?_⟩
        rw [rep]
        rwa [List.take_of_length_le (by simp [hl, T.size])] at hx
   ·match n, h, hm with
    | 1, h, hm =>
      simp only [arrayOk, decide_eq_true_eq] at h
      subst h
      rw [List.range'_succ, List.mapM_cons] at hm
      cases h4 : DataW.trod enc P w base spare held fuel e ((cs.drop (k * P.cellsOf e)).take (P.cellsOf e)) with
      | none => rw [h4] at hm; cases hm
      | some q =>
        obtain ⟨x, hx⟩ := ih.1 e hte fuel _ q.1 q.2 h4
        rw [cellsOf_size K hte] at hx
        refine ⟨x, ?_⟩
        rw [rep]
        rwa [List.take_of_length_le (by simp [hl, T.size])] at hx
 | cons t ts ih1 ih2 =>
   intro hno
   rw [T.noK, Bool.and_eq_true] at hno
   replace ih1 := ih1 hno.1
   replace ih2 := ih2 hno.2
   refine ⟨fun tid ht fuel cs d ps h => ?_, fun fields off h fuel cs r hm hl => ?_, fun te e n k h hte fuel cs r hm hl => ?_⟩
   ·obtain ⟨de, hu, hs⟩ := K.und ht
    cases de <;> cases hs
   ·match fields, h, hm with
    | f :: g :: fs, h, hm =>
      simp only [fieldsOk, Bool.and_eq_true, beq_iff_eq, decide_eq_true_eq] at h
      obtain ⟨⟨⟨h1, h2⟩, h3⟩, h4⟩ := h
      rw [List.mapM_cons] at hm
      cases h5 : DataW.trod enc P w base spare held fuel f.type ((cs.drop f.offset).take (P.cellsOf f.type)) with
      | none => rw [h5] at hm; cases hm
      | some q =>
        rw [h5] at hm
        cases h6 : (g :: fs).mapM (fun f => DataW.trod enc P w base spare held fuel f.type ((cs.drop f.offset).take (P.cellsOf f.type))) with
        | none => simp only [h6] at hm; cases hm
        | some r2 =>
          obtain ⟨x, hx⟩ := ih1.1 f.type h2 fuel _ q.1 q.2 h5
          obtain ⟨y, hy⟩ := ih2.2.1 (g :: fs) (off + t.size) h4 fuel cs r2 h6 (by rw [hl]; simp [T.size]; omega)
          rw [cellsOf_size K h2, h1] at hx
          refine ⟨(x, y), ?_⟩
          rw [rep]
          refine ⟨_, _, ?_, hx, hy⟩
          rw [← List.drop_drop, List.take_append_drop]
   ·match n, h, hm with
    | n + 2, h, hm =>
      simp only [arrayOk, Bool.and_eq_true, decide_eq_true_eq] at h
      obtain ⟨rfl, h2⟩ := h
      rw [List.range'_succ, List.mapM_cons] at hm
      cases h5 : DataW.trod enc P w base spare held fuel e ((cs.drop (k * P.cellsOf e)).take (P.cellsOf e)) with
      | none => rw [h5] at hm; cases hm
      | some q =>
        rw [h5] at hm
        cases h6 : (List.range' (k + 1) (n + 1)).mapM (fun i => DataW.trod enc P w base spare held fuel e ((cs.drop (i * P.cellsOf e)).take (P.cellsOf e))) with
        | none => simp only [h6] at hm; cases hm
        | some r2 =>
          obtain ⟨x, hx⟩ := ih1.1 e hte fuel _ q.1 q.2 h5
          obtain ⟨y, hy⟩ := ih2.2.2 t e (n + 1) (k + 1) h2 hte fuel cs r2 h6 (by rw [hl]; simp [T.size, Nat.add_mul]; omega)
          rw [cellsOf_size K hte] at hx
          refine ⟨(x, y), ?_⟩
          rw [rep]
          refine ⟨_, _, ?_, hx, hy⟩
          rw [show (k + 1) * t.size = k * t.size + t.size from by rw [Nat.add_mul]; omega, ← List.drop_drop, List.take_append_drop]
end
end Go.Sw

namespace Go.Sw
open Go.ChangeShapes Go.WideShapes Go.ChangeAt Go.RowKit
section
variable {P : Program} {X : Ctx} {H : Type} {enc : TypeId × Value → H}
theorem imm_heap (w : World) (b : Nat) (h : inHeap w b) : Imm (fun _ => False) dead w b := ⟨h, id, fun _ _ e => by cases e⟩
theorem arg_open (K : TyOk P X) {W : World} {tid : TypeId} {τ : T} (ht : X.ty tid = some τ) (hnk : τ.noK = true) (hag : τ.isAgg = true) {r : Reach} {base b : Nat} {v : Value} (hval : Value.okWide P W r base tid v) {sp : Nat → Bool} {hd : Bool} {d : DataW H} {p : List MemPlace}
 (h : DataW.Trod enc P W b sp hd tid v d p) : ∃ x : τ.D, repV (Imm (fun _ => False) dead W) dead W (.d τ x) v ∧ okD τ x := by
 obtain ⟨de, hu, hs⟩ := K.und ht
 have hv : ∃ cs, v = .agg cs := by
  unfold Value.okWide at hval
  rw [hu] at hval
  have := shape_agg hs
  rw [hag] at this
  cases de <;> first | (cases this; done) | exact ⟨_, hval.choose_spec.1⟩
 obtain ⟨cs, rfl⟩ := hv
 obtain ⟨fuel, hf⟩ := h
 obtain ⟨x, hx⟩ := (trod_open (enc := enc) (w := W) (base := b) (spare := sp) (held := hd) K τ hnk).1 tid ht fuel _ d p hf
 refine ⟨x, ⟨cs.toList, ?_, ?_⟩, okD_of_rep hx⟩
 ·rw [repC]
  exact rep_stay ⟨imm_heap W, fun _ _ _ _ h => h⟩ hx
 ·show Value.agg cs = mkVal τ.isAgg cs.toList
  rw [hag]
  rfl
theorem below_of_ext {W W' : World} (h : Ext dead W dead W') : Below W.heap.size W W' :=
 ⟨h.os, h.tape, h.output, h.size, fun k hk => h.keep k hk fun _ _ e => by cases e⟩
theorem laidVars_mem {W : World} : ∀ {laid : List (String × DataW Unit)} {ps : List MemPlace}, DataW.LaidVars P W laid ps → ∀ {n : String} {d : DataW Unit}, (n, d) ∈ laid →
 ∃ g t cs fuel p, P.globalNamed n = some g ∧ (P.globals[g]?).map (·.type) = some t ∧ W.var? P n = some cs ∧ DataW.trod (fun _ => ()) P W 0 (fun _ => true) false fuel t cs.toList = some (d, p) := by
 intro laid
 induction laid with
 | nil => intro ps _ n d h; cases h
 | cons x r ih =>
   intro ps h n d hm
   obtain ⟨n0, d0⟩ := x
   obtain ⟨g, t, cs, fuel, p, q, h1, h2, h3, h4, h5, _⟩ := h
   rcases List.mem_cons.1 hm with hm | hm
   ·obtain ⟨rfl, rfl⟩ := Prod.mk.inj hm
    exact ⟨g, t, cs, fuel, p, h1, h2, h3, h4⟩
   ·exact ih h5 hm
theorem trod_ints {W : World} {n : Nat} {k : IntKind} {t e : TypeId} {fuel : Nat} {cs : List Value} {p : List MemPlace} {l : List Int} (ht : P.underlying t = some (.array n e)) (he : P.underlying e = some (.int k)) (hc : P.cellsOf e = 1)
 (h : DataW.trod (fun _ => ()) P W 0 (fun _ => true) false fuel t cs = some (.agg (l.map fun x => .lit (.int k x)), p)) : ∀ (i : Nat) (x : Int), l[i]? = some x → cs[i]? = some (Value.int k x) := by
 obtain ⟨xs, m, _, ex, _, hl, hel⟩ := DataW.trod_array ht h
 intro i x hx
 have e3 : (xs.map (·.1)) = l.map fun n => .lit (.int k n) := (DataW.agg.inj (Prod.mk.inj ex).1).symm
 have hli : i < l.length := (List.getElem?_eq_some_iff.1 hx).1
 have hlx : xs.length = l.length := by have := congrArg List.length e3; simpa using this
 have hE := hel i (by omega)
 rw [hc, Nat.mul_one, List.getElem?_eq_getElem (by omega)] at hE
 obtain ⟨z, e1, e2, _⟩ := DataW.trod_int he hE
 have e4 : (xs.map (·.1))[i]? = (l.map fun n => (DataW.lit (.int k n) : DataW Unit))[i]? := by rw [e3]
 rw [List.getElem?_map, List.getElem?_map, List.getElem?_eq_getElem (by omega : i < xs.length), hx, e2] at e4
 have hz : z = x := by simpa using e4
 subst hz
 have h0 : ((cs.drop i).take 1)[0]? = some (.int k z) := by rw [e1]; rfl
 simpa using h0
theorem gl_of {W : World} {laid : List (String × DataW Unit)} {d : DataW Unit} (h : laidMet P laid W) (hm : ("internal/strconv.uint64pow10", d) ∈ laid) (hd : d = .agg ((((List.range 20).map fun i => ((10 ^ i : Nat) : Int))).map fun x => .lit (.int .u64 x)))
 {g t e : Nat} (hg : P.globalNamed "internal/strconv.uint64pow10" = some g) (ht : (P.globals[g]?).map (·.type) = some t) (hu : P.underlying t = some (.array 20 e)) (he : P.underlying e = some (.int .u64)) (hc : P.cellsOf e = 1) : Gl P (fun _ => False) dead W := by
 obtain ⟨ps, hv, _, _⟩ := h
 obtain ⟨g', t', cs, fuel, p, h1, h2, h3, h4⟩ := laidVars_mem hv hm
 obtain rfl := Option.some.inj (hg.symm.trans h1)
 obtain rfl := Option.some.inj (ht.symm.trans h2)
 rw [hd] at h4
 have key := trod_ints hu he hc h4
 intro q hq g2 hg2
 obtain rfl := List.mem_singleton.1 hq
 obtain rfl := Option.some.inj (hg.symm.trans hg2)
 have at' : At W g 0 ((List.range 20).map fun i => .int .u64 ((10 ^ i : Nat) : Int)) := by
  intro j v hj
  rw [List.getElem?_map] at hj
  cases hr : (List.range 20)[j]? with
  | none => rw [hr] at hj; cases hj
  | some i =>
    rw [hr] at hj
    obtain rfl := Option.some.inj hj
    have := key j ((10 ^ i : Nat) : Int) (by rw [List.getElem?_map, hr]; rfl)
    rw [Nat.zero_add, World.var?_cell hg h3 j]
    simpa using this
 refine ⟨⟨?_, id, fun _ _ e => by cases e⟩, ?_⟩
 ·have h0 := at' 0 (.int .u64 1) rfl
  rw [Nat.zero_add] at h0
  rcases Nat.lt_or_ge g W.heap.size with hlt | hge
  ·exact hlt
  ·exfalso
   have : W.heap[g]? = none := Array.getElem?_eq_none hge
   simp [World.cell?, this] at h0
 ·have e1 : ((List.range 20).map fun i => Value.int .u64 (10 ^ i)) = ((List.range 20).map fun i => Value.int .u64 ((10 ^ i : Nat) : Int)) := by
   apply List.map_congr_left
   intro i _
   simp
  show At W g 0 ((List.range 20).map fun i => Value.int .u64 (10 ^ i))
  rw [e1]
  exact at'
theorem arg_int (K : TyOk P X) {W : World} {tid : TypeId} {k : IntKind} (hu : P.underlying tid = some (.int k)) {r : Reach} {base b : Nat} {v : Value} (hval : Value.okWide P W r base tid v) {sp : Nat → Bool} {hd : Bool} {d : DataW H} {p : List MemPlace}
 (h : DataW.Trod enc P W b sp hd tid v d p) : ∃ n : Int, repV (Imm (fun _ => False) dead W) dead W (.d (.int k) n) v ∧ okD (.int k) n := by
 obtain ⟨n, rfl, _, _, hw⟩ := open_int hu hval h
 have hn : k.min ≤ n ∧ n ≤ k.max := by
  simp only [Lit.wf, Bool.and_eq_true, decide_eq_true_eq] at hw
  exact hw
 exact ⟨n, repV_int_mk hn, hn⟩
def ArgOk (P : Program) (X : Ctx) (tid : TypeId) (τ : T) : Prop := (X.ty tid = some τ ∧ τ.noK = true ∧ τ.isAgg = true ∧ P.readableRec tid = true ∧ tid < P.types.size) ∨ (∃ k, τ = .int k ∧ P.underlying tid = some (.int k) ∧ P.readableRec tid = true ∧ tid < P.types.size)
theorem ArgOk.opens (K : TyOk P X) {W : World} {tid : TypeId} {τ : T} (ha : ArgOk P X tid τ) {r : Reach} {base b : Nat} {v : Value} (hval : Value.okWide P W r base tid v) {sp : Nat → Bool} {hd : Bool} {d : DataW H} {p : List MemPlace}
 (h : DataW.Trod enc P W b sp hd tid v d p) : ∃ x : τ.D, repV (Imm (fun _ => False) dead W) dead W (.d τ x) v ∧ okD τ x := by
 rcases ha with ⟨h1, h2, h3, _, _⟩ | ⟨k, rfl, hu, _, _⟩
 ·exact arg_open K h1 h2 h3 hval h
 ·exact arg_int K hu hval h
theorem ArgOk.read {tid : TypeId} {τ : T} (ha : ArgOk P X tid τ) : P.readableRec tid = true ∧ tid < P.types.size := by
 rcases ha with ⟨_, _, _, h4, h5⟩ | ⟨k, _, _, h4, h5⟩
 ·exact ⟨h4, h5⟩
 ·exact ⟨h4, h5⟩
theorem law3 (K : TyOk P X) (hl : laidOutB P = true) {f : FuncId} {fn : Func} {spec : ChangeSpec} (hvars : spec.vars = []) (hspec : ∀ d0 d1 d2 : DataW H, spec.fn H [d0, d1, d2] = { results := [.lit (.bool true)], args := [d0, d1, d2] })
 {t0 t1 t2 : TypeId} (hp : fn.params = #[t0, t1, t2]) {tb : TypeId} (hr : fn.resultTypes = #[tb]) (hub : P.underlying tb = some .bool) {τ0 τ1 τ2 : T} (h0 : ArgOk P X t0 τ0) (h1 : ArgOk P X t1 τ1) (h2 : ArgOk P X t2 τ2)
 (hfn : ∀ (x0 : τ0.D) (x1 : τ1.D) (x2 : τ2.D), okD τ0 x0 → okD τ1 x1 → okD τ2 x2 → CallPure P f [.d τ0 x0, .d τ1 x1, .d τ2 x2] (.d .bool true))
 {apart fresh handsOn : Bool} {W : World} {base : Nat} {args : Array Value} {ds gs : List (DataW H)} {before : List MemPlace}
 (hval : ∀ (j : Nat) t v, fn.params[j]? = some t → args[j]? = some v → Value.okWide P W .any base t v)
 (hW : DataW.Whole enc P fn.params.toList spec.vars apart W args.toList ds gs before) (hG : Gl P (fun _ => False) dead W) :
 Calls P f args W fun e W' => ∃ v, e = .returned v ∧ spec.post enc P fn apart fresh handsOn false W args v W' := by
 have hW' := hW
 obtain ⟨p, q, hA, hV, rfl, hfz, hnd⟩ := hW
 rw [hvars] at hV
 obtain ⟨rfl, rfl⟩ := trodVars_none hV
 have hpl : fn.params.toList = [t0, t1, t2] := by rw [hp]
 rw [hpl] at hA
 rw [hp] at hval
 obtain ⟨v0, vs0, d0, ds0, p0, q0, hargs, rfl, rfl, g0, hA⟩ := trodAll_cons hA
 obtain ⟨v1, vs1, d1, ds1, p1, q1, rfl, rfl, rfl, g1, hA⟩ := trodAll_cons hA
 obtain ⟨v2, vs2, d2, ds2, p2, q2, rfl, rfl, rfl, g2, hA⟩ := trodAll_cons hA
 obtain ⟨rfl, rfl, rfl⟩ := trodAll_nil hA
 obtain rfl : args = #[v0, v1, v2] := by cases args; simp_all
 obtain ⟨x0, k0, o0⟩ := h0.opens K (hval 0 t0 v0 rfl rfl) g0
 obtain ⟨x1, k1, o1⟩ := h1.opens K (hval 1 t1 v1 rfl rfl) g1
 obtain ⟨x2, k2, o2⟩ := h2.opens K (hval 2 t2 v2 rfl rfl) g2
 have hc := hfn x0 x1 x2 o0 o1 o2 (fun _ => False) W [v0, v1, v2] (fun _ h => h.elim) hG ⟨k0, k1, k2, trivial⟩
 refine hc.mono ?_
 rintro e W' ⟨v, rfl, hv, hx⟩
 obtain rfl := repV_bool hv
 have hb := below_of_ext hx
 have hlt : ∀ x ∈ p0 ++ (p1 ++ (p2 ++ [])) ++ [], x.block < W.heap.size := fun x hx => hW'.lt x hx
 have c0 := Below.trod hl h0.read.1 h0.read.2 g0 hb (fun x hx => hlt x (by simp [hx]))
 have c1 := Below.trod hl h1.read.1 h1.read.2 g1 hb (fun x hx => hlt x (by simp [hx]))
 have c2 := Below.trod hl h2.read.1 h2.read.2 g2 hb (fun x hx => hlt x (by simp [hx]))
 refine ⟨_, rfl, [d0, d1, d2], [], _, [], p0 ++ (p1 ++ p2), [], hW', ?_, ?_, ?_, hb.frame _, fun h => by cases h⟩
 ·rw [List.append_nil, hspec, hr]
  exact trodAll_mk1 (shut_bool hub _)
 ·rw [List.append_nil, hspec, hpl]
  exact trodAll_mk3 c0 c1 c2
 ·rw [hvars, List.append_nil, hspec]
  exact rfl
end
end Go.Sw
