/- A reckoning of closed calls, and that it is sound; no conditions. -/
import Derived.Test.YtnjgokpdlolapaaGreatDoorSwc
namespace Go.Sw
noncomputable section
structure Env where
 P : Program
 X : Ctx
 kn : Nat → List V → Option V
 bn : Nat → Bool   -- functions that write into rows that they are given
def okAll (cs : List Cnd) : Bool := cs.all Cnd.ok
def getW (Γ : List (Nat × V)) (t : Nat) : V := List.rec .un (fun p _ ih => Bool.rec ih p.2 (Nat.beq p.1 t)) Γ
def getX (σ : List (Nat × E)) (t : Nat) : Option E := List.rec none (fun p _ ih => Bool.rec ih (some p.2) (Nat.beq p.1 t)) σ
theorem getW_eq : getW = getV := by
 funext Γ t
 induction Γ with
 | nil => rfl
 | cons p r ih =>
   show (Bool.rec (getW r t) p.2 (Nat.beq p.1 t) : V) = getV (p :: r) t
   obtain ⟨k, v⟩ := p
   rw [getV, ih]
   by_cases h : k = t
   ·subst h; rw [if_pos rfl]; simp [Nat.beq_refl]
   ·rw [if_neg h]
    have : Nat.beq k t = false := by cases hb : Nat.beq k t with | false => rfl | true => exact absurd (Nat.eq_of_beq_eq_true hb) h
    simp only [this]
theorem getX_eq : getX = getE := by
 funext Γ t
 induction Γ with
 | nil => rfl
 | cons p r ih =>
   show (Bool.rec (getX r t) (some p.2) (Nat.beq p.1 t) : Option E) = getE (p :: r) t
   obtain ⟨k, v⟩ := p
   rw [getE, ih]
   by_cases h : k = t
   ·subst h; rw [if_pos rfl]; simp [Nat.beq_refl]
   ·rw [if_neg h]
    have : Nat.beq k t = false := by cases hb : Nat.beq k t with | false => rfl | true => exact absurd (Nat.eq_of_beq_eq_true hb) h
    simp only [this]
def stW (P : Program) (X : Ctx) (n : Nat) (ops : Array Oper) (o : Oper) (h : Hint) (id : Nat) (s : St) : Option (St × List Cnd) :=
 if dstOk n o.dst = true then
  match wantedV ops (getW s.Γ) o.guard with
  | some true =>
    (match getX s.σ id with
     | some _ => none
     | none =>
       match evOp P X (look (getW s.Γ)) (getX s.σ) id h o.op with
       | some out => if lowL out.kill = true then some (((s.kill out.kill).upd out.upd).put o.dst (decideV h out.v).1, out.c ++ (decideV h out.v).2) else none
       | none => none)
  | some false => some (s.put o.dst (.tup .vnil), [])
  | none => none
 else none
def exposX (D E : Nat) : Operand → Nat
 | .tmp t => bif D.testBit t then E else E ||| (1 <<< t)
 | _ => E
def exposR : List Oper → Nat → Nat → Nat
 | [], _, E => E
 | o :: r, D, E => exposR r (match o.dst with | some d => D ||| (1 <<< d) | none => D) (o.op.operands.toList.foldl (exposX D) E)
def exposC : Code → Nat → Nat
 | .region _ ops _, E => exposR ops.toList 0 E
 | .seq a b, E => exposC b (exposC a E)
 | .cond c a b, E => exposC b (exposC a (exposX 0 E c))
 | .block _ b, E => exposC b E
 | .loop b, E => exposC b E
 | _, E => E
def exposF (fn : Func) : Nat := (fn.results.toList.foldl (fun E r => match r with | .tmp t => E ||| (1 <<< t) | .cell t _ => E ||| (1 <<< t)) (match fn.body with | some c => exposC c 0 | none => 0))
def St.prune (s : St) (m : Nat) : St := ⟨s.Γ.filter fun p => m.testBit p.1, s.σ⟩
def V.nms : V → List Nat
 | .ptr k _ | .elt k _ _ _ | .vec k _ | .sub k _ _ _ => [k]
 | .fn _ a c => a.nms ++ c.nms
 | .agg x | .tup x => x.nms
 | .vcons a b => a.nms ++ b.nms
 | _ => []
def reachL (σ : List (Nat × E)) : Nat → List Nat → List Nat → List Nat
 | 0, _, acc => acc
 | _, [], acc => acc
 | m + 1, k :: ks, acc => if acc.contains k then reachL σ m ks acc else
   match getE σ k with
   | some (.box bt c) => reachL σ m (c.nms ++ ks) (acc ++ [k])
   | some _ => reachL σ m ks (acc ++ [k])
   | none => reachL σ m ks acc
def anchN (k : Nat) : Nat := if low k = true then k + anch else k
def partIds (σ : List (Nat × E)) (ks : List Nat) : List Nat := (ks.map fun k => match getE σ k with | some (.box _ c) => c.nms | _ => []).flatten
def nameC (σ : List (Nat × E)) (ps : List Nat) (k : Nat) : Nat := match getE σ k with
 | some (.vec ..) => if ps.contains k = true ∧ low k = true then k else anchN k
 | _ => anchN k
def slotsOf : List (Nat × V) → Nat → List Nat
 | [], _ => []
 | (t, v) :: r, m => if m.testBit t then slotsOf r m else match v with
   | .un => slotsOf r (m ||| (1 <<< t))
   | _ => t :: slotsOf r (m ||| (1 <<< t))
def St.tidy (s : St) : Option St :=
 s.keep (slotsOf s.Γ 0) (reachL s.σ 100000 (((s.Γ.map fun p => p.2.nms).flatten) ++ (s.σ.map (·.1)).filter (fun k => !low k)) [])
def St.freezes (s : St) : List Nat → St
 | [] => s
 | k :: ks => match s.freeze k with
   | some s' => St.freezes s' ks
   | none => St.freezes s ks
def lowIds (v : V) : List Nat := v.nms.filter low
def hintsFor (X : Ctx) (o : Op) : List Hint := match o with
 | .alloc t => if X.ar t then (match X.ty t with | some (.st (.cons (.int .u8) _)) => [.own] | _ => [.no]) else [.part]
 | .build t ps => [.no, .part]
 | .buildSlice .. => [.own]
 | .call _ => [.own]
 | _ => [.no]
def usedInCall (ops : Array Oper) (d : Option Nat) : Bool := match d with
 | some d => ops.any fun o => match o.op with
   | .call c => (match c.callee with | .value _ => c.args.any (fun x => match x with | .tmp t => t == d | _ => false) | _ => false)
   | _ => false
 | none => false
def hintsD (X : Ctx) (ops : Array Oper) (o : Oper) : List Hint := match o.op with
 | .buildSlice .. => [.no, .own]
 | .call _ => if usedInCall ops o.dst = true then [.part, .no] else [.own]
 | op => hintsFor X op
def stepH (v : Env) (n : Nat) (ops : Array Oper) (o : Oper) (id : Nat) (s : St) : List Hint → Option St
 | [] => none
 | h :: hs => match stW v.P v.X n ops o h id s with
   | some r => if okAll r.2 = true then some r.1 else stepH v n ops o id s hs
   | none => stepH v n ops o id s hs
abbrev CallF := Bool → Nat → List V → List (Nat × E) → Nat → Option (V × List (Nat × E) × Nat × Bool)
def rowArgs (v : Env) (s : St) (c : Call) : List Nat :=
 match c.callee with
 | .value f => match look (getW s.Γ) f with
   | .fn g _ _ => if v.bn g = true then [] else (c.args.toList.map fun x => match look (getW s.Γ) x with | .vec k _ => [k] | .sub k _ _ _ => [k] | .agg l => l.nms | _ => []).flatten.filter low
   | _ => []
 | _ => []
def okK (ρ back : List (Nat × Nat)) (k : Nat) : Bool := (ρ.any fun p => p.1 == renL back 0 k) && renL ρ 0 (renL back 0 k) == k
def okE (ρ back : List (Nat × Nat)) : Option E → Bool
 | some (.box _ c) => c.nms.all (okK ρ back)
 | some (.vec ..) => true
 | none => false
def okN (σ : Nat → Option E) (ρ back : List (Nat × Nat)) (ks : List Nat) (all : List V) : Bool :=
 ks.all (okK ρ back) && (ks.all fun k => okE ρ back (σ k)) && all.all fun v => v.nms.all (okK ρ back)
def callHint (v : Env) (call : CallF) (own : Bool) (s : St) (nx : Nat) (c : Call) : Option (Hint × Nat) :=
 match c.callee with
 | .value f => match look (getW s.Γ) f with
   | .fn g fst cap =>
     let as := coeArgs v.X c.argTypes.toList (c.args.toList.map (look (getW s.Γ)))
     match v.kn g as with
     | some r => some (.call r, nx)
     | none =>
       let all := fst.toL ++ (as ++ cap.toL)
       let ks := reachL s.σ 100000 ((all.map V.nms).flatten) []
       let ps := partIds s.σ ks
       let ρ := ks.map fun k => (nameC s.σ ps k, k)
       let back := ks.map fun k => (k, nameC s.σ ps k)
       let σi := ks.filterMap fun k => (getX s.σ k).map fun e => (renL back 0 k, e.ren (renL back 0))
       let σw := getX s.σ
       if okN σw ρ back ks all = true then match call own g (all.map (V.ren (renL back 0))) σi (match ks with | [] => 300 | _ => nx) with
       | some (r, σo, nx', own) =>
         if own then match r, σo with
          | .vec k te, [(_, .vec el te' l)] => if h : te' = te then some (.callO el te' l, nx') else none
          | _, _ => none
         else (match ks with | [] => some (.call r, nx') | _ => some (.callS σi (all.map (V.ren (renL back 0))) ρ r σo, nx'))
       | none => none
       else none
   | _ => none
 | _ => none
def toDs : (t : T) → V → Option t.D
 | .st fs, v => match v with
   | .d u x => T.cast (.st fs) x
   | .agg c => toDs fs c
   | _ => none
 | .one t, v => match v with
   | .vcons a .vnil => toDs t a
   | _ => none
 | .cons t ts, v => match v with
   | .vcons a b => (toDs t a).bind fun x => (toDs ts b).map fun y => (x, y)
   | _ => none
 | .sl t, v => match v with
   | .d u x => T.cast (.sl t) x
   | .nil => some []
   | _ => none
 | .bool, v => match v with | .d u x => T.cast .bool x | _ => none
 | .int k, v => match v with | .d u x => T.cast (.int k) x | _ => none
 | .str, v => match v with | .d u x => T.cast .str x | _ => none
 | .con n, v => match v with | .d u x => T.cast (.con n) x | _ => none
def St.solid (s : St) (t : Nat) (τ : T) : Option St :=
 match getW s.Γ t with
 | .d _ _ => some s
 | v => (toDs τ v).map fun x => ⟨(t, .d τ x) :: s.Γ, s.σ⟩
def solidSlots (s : St) : List (Nat × T) → St
 | [] => s
 | (t, τ) :: r => match (s.freezes (lowIds (getW s.Γ t))).solid t τ with
   | some s' => solidSlots s' r
   | none => solidSlots s r
def tmpOf : Operand → Option Nat
 | .tmp t => some t
 | _ => none
def fieldTys : T → List T
 | .one t => [t]
 | .cons t ts => t :: fieldTys ts
 | _ => []
def wants (X : Ctx) (o : Op) : List (Nat × T) :=
 match o with
 | .build t ps => match X.ty t with
   | some (.st fs) => ps.toList.filterMap fun p => (tmpOf p.2).bind fun s => ((fieldTys fs)[p.1]?).map fun τ => (s, τ)
   | _ => []
 | .buildSlice t _ ps => match X.ty t with
   | some (.sl te) => ps.toList.filterMap fun p => (tmpOf p.2).map fun s => (s, te)
   | _ => []
 | .store t _ x => match tmpOf x, X.ty t with | some s, some τ => [(s, τ)] | _, _ => []
 | .field t x _ => match tmpOf x, X.ty t with | some s, some τ => [(s, τ)] | _, _ => []
 | .binOp _ t x y _ => match X.ty t with | some τ => ((tmpOf x).toList ++ (tmpOf y).toList).map fun s => (s, τ) | _ => []
 | .call c => match c.callee with
   | .builtin .append => ((c.args.toList.drop 1).filterMap tmpOf).filterMap fun s => ((c.argTypes.toList[1]?).bind X.ty).map fun τ => (s, τ)
   | _ => []
 | _ => []
def isCallV (v : Env) (s : St) : Op → Option Call
 | .call c => match c.callee with
   | .value f => match look (getW s.Γ) f with
     | .fn g _ _ => if v.X.fn g = true then some c else none
     | _ => none
   | _ => none
 | _ => none
def nameParts (v : Env) (b : Nat) : List (Nat × Nat) → St → Nat → St × Nat
 | [], s, nx => (s, nx)
 | (i, ty) :: r, s, nx => match v.X.ty ty with
   | some (.sl te) => match s.nameB b i nx (v.X.el ty) te with
     | some s' => nameParts v b r s' (nx + 1)
     | none => nameParts v b r s nx
   | _ => nameParts v b r s nx
def fieldsOf (v : Env) (t : TypeId) : List (Nat × Nat) := match v.P.underlying t with
 | some (.struct fs) => fs.toList.zipIdx.map fun p => (p.2, p.1.type)
 | _ => []
def exMove (n : Nat) (o : Oper) (x : Operand) (s : St) : Option St :=
 match o.guard with
 | none => if dstOk n o.dst = true then some (s.put o.dst (look (getW s.Γ) x)) else none
 | some _ => none
def exGen (v : Env) (n : Nat) (ops : Array Oper) (o : Oper) (s : St) (nx : Nat) (hs : List Hint) : Option St :=
 match stepH v n ops o nx s hs with
 | some s' => some s'
 | none => stepH v n ops o nx (solidSlots s (wants v.X o.op)) hs
def exCallG (v : Env) (call : CallF) (n : Nat) (ops : Array Oper) (o : Oper) (c : Call) (s : St) (nx : Nat) : Option St :=
 let s := s.freezes (rowArgs v s c)
 match callHint v call true s (nx + 1) c with
 | some (h, _) => match stW v.P v.X n ops o h nx s with
   | some r => some r.1
   | none => none
 | none => none
def exOp (v : Env) (call : CallF) (n : Nat) (ops : Array Oper) (o : Oper) (s : St) (nx : Nat) : Option (St × Nat) :=
 match o.op with
 | .alloc t => match exGen v n ops o s nx (hintsFor v.X o.op) with
   | some s' => some (nameParts v nx (fieldsOf v t) s' (nx + 1))
   | none => none
 | .call c => match wantedV ops (getW s.Γ) o.guard, isCallV v s o.op with
   | some true, some _ => (exCallG v call n ops o c s nx).map fun s' => (s', nx + 1)
   | _, _ => (exGen v n ops o s nx [.own]).map fun s' => (s', nx + 1)
 | .box .. | .buildSlice .. | .makeSlice .. | .build .. => (exGen v n ops o s nx (hintsFor v.X o.op)).map fun s' => (s', nx + 1)
 | _ => (exGen v n ops o s nx [.no]).map fun s' => (s', nx)
def exStep (v : Env) (call : CallF) (n : Nat) (ops : Array Oper) (o : Oper) (s : St) (nx : Nat) : Option (St × Nat) :=
 match o.op with
 | .move x | .assign x => match exMove n o x s with
   | some s' => some (s', nx)
   | none => exOp v call n ops o s nx
 | _ => exOp v call n ops o s nx
def exOps (v : Env) (call : CallF) (n : Nat) (ops : Array Oper) : List Oper → St → Nat → Option (St × Nat)
 | [], s, nx => some (s, nx)
 | o :: os, s, nx => match exStep v call n ops o s nx with
   | some r => exOps v call n ops os r.1 r.2
   | none => none
def tkH (v : Env) (n : Nat) (ops : Array Oper) (i base : Nat) (s : St) : List Hint → Option (Hint × Tk)
 | [] => none
 | h :: hs => match evTk v.P v.X n ops [(i, h)] base i s with
   | some k => if okAll k.c = true then some (h, k) else tkH v n ops i base s hs
   | none => tkH v n ops i base s hs
def exTk (v : Env) (call : CallF) (n : Nat) (ops : Array Oper) (base i : Nat) (s : St) (nx : Nat) : Option ((Hint × Tk) × Nat) :=
 match ops[i]? with
 | none => none
 | some o => match wantedV ops (getW s.Γ) o.guard, isCallV v s o.op with
   | some true, some c => match callHint v call false s nx c with
     | some (h, nx') => match evTk v.P v.X n ops [(i, h)] base i s with
       | some k => some ((h, k), nx)
       | none => none
     | none => none
   | _, _ => match tkH v n ops i base s (hintsD v.X ops o) with
     | some r => some (r, nx)
     | none => none
def exTks (v : Env) (call : CallF) (n : Nat) (ops : Array Oper) (base : Nat) : Nat → Nat → St → Nat → Option (List (Nat × Hint) × List Tk × St × Nat)
 | 0, _, s, nx => some ([], [], s, nx)
 | m + 1, i, s, nx => match exTk v call n ops base i s nx with
   | some ((h, k), nx') => match exTks v call n ops base m (i + 1) (s.tr k.tr) nx' with
     | some (hs, ks, s', nx'') => some ((i, h) :: hs, k :: ks, s', nx'')
     | none => none
   | none => none
def movesOf (ops : List Oper) : List (Nat × Nat) := ops.filterMap fun o => match o.op, o.dst with
 | .move (.tmp t), some d => some (d, t)
 | .assign (.tmp t), some d => some (d, t)
 | _, _ => none
def srcSlot (ms : List (Nat × Nat)) (t : Nat) : Nat := ((ms.find? fun p => p.1 == t).map (·.2)).getD t
def solidD (v : Env) (ops : Array Oper) (s : St) : St :=
 let s := solidSlots s (((ops.toList.map fun o => wants v.X o.op).flatten).map fun p => (srcSlot (movesOf ops.toList) p.1, p.2))
 s.freezes ((ops.toList.map fun o => match o.op with
  | .call c => rowArgs v ⟨(movesOf ops.toList).map (fun p => (p.1, getW s.Γ p.2)) ++ s.Γ, s.σ⟩ c
  | _ => []).flatten)
def exRegD (v : Env) (call : CallF) (n : Nat) (ops : Array Oper) (s : St) (nx : Nat) : Option (St × Nat) :=
 let s := solidD v ops s
 let base := nx
 match exTks v call n ops base ops.size 0 s (nx + ops.size) with
 | some (hs, ks, s', nx') => if ordOk ops s (masks ops.toList []) ks = true then some (s', nx') else none
 | none => none
def exCode (v : Env) (call : CallF) (n ex : Nat) : Nat → Code → St → Nat → Option (Ex × St × Nat)
 | 0, _, _, _ => none
 | k + 1, c, s, nx => match c with
   | .skip => some (.nrm, s, nx)
   | .ret => some (.ret, s, nx)
   | .exit id => some (.out id, s, nx)
   | .region _ ops false => match exOps v call n ops ops.toList s nx with
     | some (s', nx') => some (.nrm, s'.prune ex, nx')
     | none => none
   | .region _ ops true => match exRegD v call n ops s nx with
     | some (s', nx') => some (.nrm, s'.prune ex, nx')
     | none => none
   | .seq a b => match exCode v call n ex k a s nx with
     | some (.nrm, s', nx') => exCode v call n ex k b s' nx'
     | r => r
   | .cond o a b => match look (getW s.Γ) o with
     | .d .bool true => exCode v call n ex k a s nx
     | .d .bool false => exCode v call n ex k b s nx
     | _ => none
   | .block id b => match exCode v call n ex k b s nx with
     | some (.out j, s', nx') => if j = id then some (.nrm, s', nx') else some (.out j, s', nx')
     | r => r
   | .loop b => match s.tidy with
     | some s0 => match exCode v call n ex k b s0 nx with
       | some (.nrm, s', nx') => exCode v call n ex k (.loop b) s' nx'
       | r => r
     | none => none
   | _ => none
def ltO (n : Nat) : List Oper → Bool
 | [] => true
 | o :: r => dstOk n o.dst && ltO n r
def ltC (n : Nat) : Code → Bool
 | .region _ ops _ => ltO n ops.toList
 | .seq a b => ltC n a && ltC n b
 | .cond _ a b => ltC n a && ltC n b
 | .block _ b => ltC n b
 | .loop b => ltC n b
 | _ => true
def resSlots (X : Ctx) : List ResultVar → List TypeId → List (Nat × T)
 | .tmp t :: rs, ty :: tys => match X.ty ty with | some τ => (t, τ) :: resSlots X rs tys | none => resSlots X rs tys
 | _ :: rs, _ :: tys => resSlots X rs tys
 | _, _ => []
def solidBox (s : St) (k : Nat) (τ : T) : St :=
 match getX s.σ k with
 | some (.box bt c) =>
   let s := s.freezes (c.nms.filter low)
   match getX s.σ k with
   | some (.box bt c) => match τ, c with
     | τ, .vcons (.d _ _) .vnil => s
     | .st _, c => match toDs τ (.agg c) with
       | some x => ⟨s.Γ, s.σ.map fun p => (p.1, if p.1 = k then .box bt (.vcons (.d τ x) .vnil) else p.2)⟩
       | none => s
     | τ, .vcons a .vnil => match toDs τ a with
       | some x => ⟨s.Γ, s.σ.map fun p => (p.1, if p.1 = k then .box bt (.vcons (.d τ x) .vnil) else p.2)⟩
       | none => s
     | _, _ => s
   | _ => s
 | _ => s
def solidCells (X : Ctx) (s : St) : List ResultVar → St
 | [] => s
 | .cell t ty :: r => match getW s.Γ t, X.ty ty with
   | .ptr k 0, some τ => solidCells X (solidBox s k τ) r
   | _, _ => solidCells X s r
 | _ :: r => solidCells X s r
def solidRes (v : Env) (fn : Func) (s : St) : St :=
 solidCells v.X (solidSlots s (resSlots v.X fn.results.toList fn.resultTypes.toList)) fn.results.toList
def rets (v : Env) (fn : Func) (σi : List (Nat × E)) (s : St) : Option (V × List (Nat × E)) :=
 match evRes v.X s fn.results.toList fn.resultTypes.toList with
 | some l => match resV l with
   | some r => match s.keep [] (σi.map (·.1)) with
     | some s' => let r' := r.kill (fun id => !(s'.σ.map (·.1)).contains id)
       some (r', s'.σ)
     | none => none
   | none => none
 | none => none
def ownRes (rs : List ResultVar) (σi : List (Nat × E)) (want : Bool) (s : St) : Option (V × List (Nat × E)) :=
 match rs, σi, want with
 | [.tmp t], [], true => match getW s.Γ t with
   | .vec k te => match s.keep [t] [k] with
     | some ⟨[(t', .vec k' te')], [(q, .vec el te2 l)]⟩ => if t' = t ∧ k' = k ∧ te' = te2 ∧ q = k then some (.vec k te2, [(k, .vec el te2 l)]) else none
     | _ => none
   | _ => none
 | _, _, _ => none
def exFn (v : Env) : Nat → CallF
 | 0 => fun _ _ _ _ _ => none
 | k + 1 => fun wantOwn g as σi nx =>
   match v.P.funcs[g]? with
   | some fn => match fn.body with
     | some c => if (ltC fn.ntmps c && Nat.ble as.length fn.ntmps) = true then
       match exCode v (exFn v k) fn.ntmps (exposF fn) 1000000 c ⟨args0 0 as, σi⟩ nx with
       | some (.out _, _, _) => none
       | some (_, s, nx') =>
         match ownRes fn.results.toList σi wantOwn s with
         | some (r, σo) => some (r, σo, nx', true)
         | none =>
           match rets v fn σi (solidRes v fn s) with
           | some (r, σo) => some (r, σo, nx', false)
           | none => none
       | none => none
       else none
     | none => none
   | none => none
end
end Go.Sw

namespace Go.Sw
def See (n : Nat) (s s' : St) : Prop := ∀ (F : Nat → Prop) (ι : Nat → Loc) (a : Act) (w : World), HoldsS F n s ι a w → ∃ ι', HoldsS F n s' ι' a w ∧ ExtA ι w ι' w
theorem See.refl (n : Nat) (s : St) : See n s s := fun F ι a w H => ⟨ι, H, ExtA.refl _ _⟩
theorem See.trans {n : Nat} {s s' s'' : St} (h : See n s s') (k : See n s' s'') : See n s s'' := by
 intro F ι a w H
 obtain ⟨ι1, H1, e1⟩ := h F ι a w H
 obtain ⟨ι2, H2, e2⟩ := k F ι1 a w H1
 exact ⟨ι2, H2, e1.trans e2⟩
theorem freeze_see {n : Nat} {s s' : St} {k : Nat} (h : s.freeze k = some s') : See n s s' := fun F ι a w H => freeze_sound h H
theorem keep_see {n : Nat} {s s' : St} {ts ids : List Nat} (h : s.keep ts ids = some s') : See n s s' := fun F ι a w H => keep_sound h H
theorem tidy_see {n : Nat} {s s' : St} (h : s.tidy = some s') : See n s s' := keep_see h
theorem freezes_see {n : Nat} : ∀ (ks : List Nat) (s : St), See n s (s.freezes ks) := by
 intro ks
 induction ks with
 | nil => intro s; exact See.refl _ _
 | cons k ks ih =>
   intro s
   rw [St.freezes]
   cases h : s.freeze k with
   | none => exact ih s
   | some s' => exact (freeze_see h).trans (ih s')
theorem slots_see {n : Nat} {s : St} {Γ : List (Nat × V)} (h : ∀ t, getV Γ t = getV s.Γ t ∨ getV Γ t = .un) : See n s ⟨Γ, s.σ⟩ := by
 intro F ι a w H
 refine ⟨ι, ⟨H.defers, H.size, fun t => ?_, H.ents, H.dead, H.inj, H.foreign⟩, ExtA.refl _ _⟩
 show repV _ _ _ (getV Γ t) _
 rcases h t with h | h <;> rw [h]
 ·exact H.slots t
 ·trivial
theorem getV_filter (f : Nat → Bool) : ∀ (Γ : List (Nat × V)) (t : Nat), getV (Γ.filter fun p => f p.1) t = if f t = true then getV Γ t else .un := by
 intro Γ
 induction Γ with
 | nil => intro t; simp [getV]
 | cons p Γ ih =>
   intro t
   obtain ⟨k, v⟩ := p
   by_cases hk : f k = true
   ·rw [List.filter_cons_of_pos (by simpa using hk), getV, getV, ih]
    by_cases h : k = t
    ·subst h; simp [hk]
    ·rw [if_neg h, if_neg h]
   ·rw [List.filter_cons_of_neg (by simpa using hk), ih, getV]
    by_cases h : k = t
    ·subst h; simp [hk]
    ·rw [if_neg h]
theorem prune_see {n : Nat} (s : St) (m : Nat) : See n s (s.prune m) := by
 refine slots_see fun t => ?_
 rw [getV_filter fun k => m.testBit k]
 split
 ·exact .inl rfl
 ·exact .inr rfl
theorem toDs_rep {I : Nat → Prop} {ι : Nat → Loc} {w : World} : ∀ {t : T} {v : V} {x : t.D}, toDs t v = some x → ∀ {cs : List Value}, repC I ι w v cs → rep I w t x cs := by
 have base : ∀ {t u : T} {y : u.D} {x : t.D}, T.cast t y = some x → ∀ {cs : List Value}, repC I ι w (.d u y) cs → rep I w t x cs := by
  intro t u y x h cs hr
  rw [repC] at hr
  exact rep_cast h hr
 intro t
 induction t with
 | bool => intro v x h cs hr; unfold toDs at h; split at h <;> first | exact base h hr | cases h
 | int k => intro v x h cs hr; unfold toDs at h; split at h <;> first | exact base h hr | cases h
 | str => intro v x h cs hr; unfold toDs at h; split at h <;> first | exact base h hr | cases h
 | con n => intro v x h cs hr; unfold toDs at h; split at h <;> first | exact base h hr | cases h
 | sl t ih =>
   intro v x h cs hr
   unfold toDs at h
   split at h
   ·exact base h hr
   ·obtain rfl := Option.some.inj h
    rw [repC] at hr
    subst hr
    rw [rep]
    exact ⟨none, 0, rfl, Nat.le_refl _, by decide, fun h => absurd rfl h⟩
   ·cases h
 | st fs ih =>
   intro v x h cs hr
   unfold toDs at h
   split at h
   ·exact base h hr
   ·rw [repC] at hr
    rw [rep]
    exact ih h hr
   ·cases h
 | one t ih =>
   intro v x h cs hr
   unfold toDs at h
   split at h
   ·rw [repC] at hr
    obtain ⟨c1, c2, rfl, h1, h2⟩ := hr
    rw [repC] at h2
    subst h2
    rw [rep, List.append_nil]
    exact ih h h1
   ·cases h
 | cons t ts ih1 ih2 =>
   intro v x h cs hr
   unfold toDs at h
   split at h
   ·rename_i a b
    cases h1 : toDs t a with
    | none => rw [h1] at h; cases h
    | some y =>
      rw [h1, Option.bind_some] at h
      cases h2 : toDs ts b with
      | none => rw [h2] at h; cases h
      | some z =>
        rw [h2] at h
        obtain rfl := Option.some.inj h
        rw [repC] at hr
        obtain ⟨c1, c2, rfl, q1, q2⟩ := hr
        rw [rep]
        exact ⟨c1, c2, rfl, ih1 h1 q1, ih2 h2 q2⟩
   ·cases h
theorem toDs_agg {t : T} {v : V} {x : t.D} (h : toDs t v = some x) : (∃ u y, v = .d u y ∧ u = t) ∨ (v = .nil ∧ t.isAgg = false) ∨ ((∃ c, v = .agg c) ∧ t.isAgg = true) ∨ (∃ a b, v = .vcons a b) := by
 cases t <;> (unfold toDs at h; split at h) <;> first
  | (cases h; done)
  | (obtain ⟨e, _⟩ := T.cast_some h; exact .inl ⟨_, _, rfl, e⟩)
  | exact .inr (.inl ⟨rfl, rfl⟩)
  | exact .inr (.inr (.inl ⟨⟨_, rfl⟩, rfl⟩))
  | exact .inr (.inr (.inr ⟨_, _, rfl⟩))
theorem solid_see {n : Nat} {s s' : St} {t : Nat} {τ : T} (h : s.solid t τ = some s') : See n s s' := by
 unfold St.solid at h
 rw [getW_eq] at h
 split at h
 ·obtain rfl := Option.some.inj h; exact See.refl _ _
 ·rename_i v hv
  cases hx : toDs τ (getV s.Γ t) with
  | none => rw [hx] at h; cases h
  | some x =>
    rw [hx] at h
    obtain rfl := Option.some.inj h
    intro F ι a w H
    refine ⟨ι, ⟨H.defers, H.size, fun i => ?_, H.ents, H.dead, H.inj, H.foreign⟩, ExtA.refl _ _⟩
    show repV _ _ _ (getV ((t, .d τ x) :: s.Γ) i) _
    rw [getV]
    split
    ·rename_i hi
     subst hi
     have hs := H.slots t
     rcases toDs_agg hx with ⟨u, y, e, rfl⟩ | ⟨e, hag⟩ | ⟨⟨c, e⟩, hag⟩ | ⟨a', b', e⟩
     ·exact absurd e (hv _ _)
     ·rw [e] at hs hx
      obtain ⟨cs, h1, h2⟩ := hs
      exact ⟨cs, by rw [repC]; exact toDs_rep hx h1, by rw [h2]; show mkVal false cs = mkVal τ.isAgg cs; rw [hag]⟩
     ·rw [e] at hs hx
      obtain ⟨cs, h1, h2⟩ := hs
      exact ⟨cs, by rw [repC]; exact toDs_rep hx h1, by rw [h2]; show mkVal true cs = mkVal τ.isAgg cs; rw [hag]⟩
     ·rw [e] at hs hx
      obtain ⟨cs, h1, h2⟩ := hs
      have hag : τ.isAgg = false := by cases τ <;> first | rfl | (cases hx; done)
      exact ⟨cs, by rw [repC]; exact toDs_rep hx h1, by rw [h2]; show mkVal false cs = mkVal τ.isAgg cs; rw [hag]⟩
    ·exact H.slots i
theorem solidSlots_see {n : Nat} : ∀ (l : List (Nat × T)) (s : St), See n s (solidSlots s l) := by
 intro l
 induction l with
 | nil => intro s; exact See.refl _ _
 | cons p l ih =>
   intro s
   obtain ⟨t, τ⟩ := p
   rw [solidSlots]
   cases h : (s.freezes (lowIds (getW s.Γ t))).solid t τ with
   | none => exact ih s
   | some s' => exact ((freezes_see _ s).trans (solid_see h)).trans (ih s')
theorem nameB_see {n : Nat} {s s' : St} {b i k e : Nat} {te : T} (h : s.nameB b i k e te = some s') : See n s s' := by
 intro F ι a w H
 unfold St.nameB at h
 split at h
 ·rename_i bt cb hb hk
  cases hz : setNil (.vec k te) cb i with
  | none => rw [hz] at h; cases h
  | some c' =>
    rw [hz] at h
    obtain rfl := Option.some.inj h
    have ht := Turn.nilv H.mem hk e te
    have hkb : k ≠ b := fun e => by subst e; rw [hb] at hk; cases hk
    have hσ : ∀ id, getE ((k, .vec e te []) :: (s.σ.map fun p => (p.1, if p.1 = b then E.box bt c' else p.2))) id = if id = k then some (.vec e te []) else if id = b then some (.box bt c') else getE s.σ id := by
     intro id
     rw [getE, getE_repl]
     by_cases h : id = k
     ·rw [if_pos h, if_pos h.symm]
     ·rw [if_neg h, if_neg (fun e => h e.symm)]
      by_cases h2 : id = b
      ·subst h2; simp [hb]
      ·rw [if_neg h2, if_neg h2]
    refine ⟨updL ι k .nilv, ⟨H.defers, H.size, fun t => repV_same ht.stay ht.same (H.slots t), fun id e' he => ?_, fun id hid => ?_, ht.mem.inj, ht.mem.foreign⟩, ⟨ht.ext, ht.same.weak fun _ _ => rfl⟩⟩
    ·have he2 : getE ((k, .vec e te []) :: (s.σ.map fun p => (p.1, if p.1 = b then E.box bt c' else p.2))) id = some e' := he
     rw [hσ] at he2
     by_cases h1 : id = k
     ·subst h1
      rw [if_pos rfl] at he2
      obtain rfl := Option.some.inj he2
      exact ht.mem.ents id _ (updE_same _ _ _)
     ·rw [if_neg h1] at he2
      by_cases h2 : id = b
      ·subst h2
       rw [if_pos rfl] at he2
       obtain rfl := Option.some.inj he2
       have h0 := H.ents id _ hb
       rw [updL_ne _ _ h1]
       cases hl : ι id with
       | blk B m =>
         rw [hl] at h0
         obtain ⟨arr, q1, q2⟩ := h0
         exact ⟨arr, q1, setNil_sound ht.stay ht.same (updL_same _ _ _) hz q2⟩
       | dead => rw [hl] at h0; exact h0.elim
       | nilv => rw [hl] at h0; exact h0.elim
      ·rw [if_neg h2] at he2
       exact ht.mem.ents id _ (by rw [updE_ne _ _ h1]; exact he2)
    ·have hid2 : getE ((k, .vec e te []) :: (s.σ.map fun p => (p.1, if p.1 = b then E.box bt c' else p.2))) id = none := hid
     rw [hσ] at hid2
     by_cases h1 : id = k
     ·rw [if_pos h1] at hid2; cases hid2
     ·rw [if_neg h1] at hid2
      by_cases h2 : id = b
      ·rw [if_pos h2] at hid2; cases hid2
      ·rw [if_neg h2] at hid2
       exact ht.mem.dead id (by rw [updE_ne _ _ h1]; exact hid2)
 ·cases h
theorem nameParts_see {n : Nat} (v : Env) (b : Nat) : ∀ (l : List (Nat × Nat)) (s : St) (nx : Nat), See n s (nameParts v b l s nx).1 := by
 intro l
 induction l with
 | nil => intro s nx; exact See.refl _ _
 | cons p l ih =>
   intro s nx
   obtain ⟨i, ty⟩ := p
   rw [nameParts]
   split
   ·split
    ·rename_i s' h
     exact (nameB_see h).trans (ih _ _)
    ·exact ih _ _
   ·exact ih _ _
theorem box_see {n : Nat} {s : St} {k bt : Nat} {c c' : V} (hb : getE s.σ k = some (.box bt c)) (hc : ∀ (I : Nat → Prop) (ι : Nat → Loc) (w : World) (cs : List Value), repC I ι w c cs → repC I ι w c' cs) :
 See n s ⟨s.Γ, s.σ.map fun p => (p.1, if p.1 = k then .box bt c' else p.2)⟩ := by
 intro F ι a w H
 have hσ : ∀ id, getE (s.σ.map fun p => (p.1, if p.1 = k then E.box bt c' else p.2)) id = if id = k then some (.box bt c') else getE s.σ id := by
  intro id
  rw [getE_repl]
  by_cases h2 : id = k
  ·subst h2; simp [hb]
  ·rw [if_neg h2, if_neg h2]
 refine ⟨ι, ⟨H.defers, H.size, H.slots, fun id e' he => ?_, fun id hid => ?_, H.inj, H.foreign⟩, ExtA.refl _ _⟩
 ·have he2 : getE (s.σ.map fun p => (p.1, if p.1 = k then E.box bt c' else p.2)) id = some e' := he
  rw [hσ] at he2
  by_cases h2 : id = k
  ·subst h2
   rw [if_pos rfl] at he2
   obtain rfl := Option.some.inj he2
   have h0 := H.ents id _ hb
   cases hl : ι id with
   | blk B m =>
     rw [hl] at h0
     obtain ⟨arr, q1, q2⟩ := h0
     exact ⟨arr, q1, hc _ _ _ _ q2⟩
   | dead => rw [hl] at h0; exact h0.elim
   | nilv => rw [hl] at h0; exact h0.elim
  ·rw [if_neg h2] at he2
   exact H.ents id _ he2
 ·have hid2 : getE (s.σ.map fun p => (p.1, if p.1 = k then E.box bt c' else p.2)) id = none := hid
  rw [hσ] at hid2
  by_cases h2 : id = k
  ·rw [if_pos h2] at hid2; cases hid2
  ·rw [if_neg h2] at hid2
   exact H.dead id hid2
theorem solidBox_see {n : Nat} (s : St) (k : Nat) (τ : T) : See n s (solidBox s k τ) := by
 unfold solidBox
 rw [getX_eq]
 split
 ·rename_i bt c hb
  refine (freezes_see (c.nms.filter low) s).trans ?_
  generalize s.freezes (c.nms.filter low) = s1
  simp only
  split
  ·rename_i bt1 c1 hb1
   split
   ·exact See.refl _ _
   ·split
    ·rename_i x hx
     refine box_see hb1 fun I ι w cs hr => ?_
     rw [repC]
     exact ⟨cs, [], by simp, by rw [repC]; exact toDs_rep hx (by rw [repC]; exact hr), by rw [repC]⟩
    ·exact See.refl _ _
   ·split
    ·rename_i x hx
     refine box_see hb1 fun I ι w cs hr => ?_
     rw [repC] at hr ⊢
     obtain ⟨q1, q2, rfl, q3, q4⟩ := hr
     exact ⟨q1, q2, rfl, by rw [repC]; exact toDs_rep hx q3, q4⟩
    ·exact See.refl _ _
   ·exact See.refl _ _
  ·exact See.refl _ _
 ·exact See.refl _ _
theorem solidCells_see {n : Nat} (X : Ctx) : ∀ (l : List ResultVar) (s : St), See n s (solidCells X s l) := by
 intro l
 induction l with
 | nil => intro s; exact See.refl _ _
 | cons p l ih =>
   intro s
   cases p with
   | tmp t => exact ih s
   | cell t ty =>
     rw [solidCells]
     split
     ·exact (solidBox_see s _ _).trans (ih _)
     ·exact ih s
theorem solidRes_see {n : Nat} (v : Env) (fn : Func) (s : St) : See n s (solidRes v fn s) := (solidSlots_see _ s).trans (solidCells_see _ _ _)
end Go.Sw

namespace Go.Sw
theorem okAll_true {cs : List Cnd} (h : okAll cs = true) : AllTrue cs := AllTrue.dec h
section
variable {P : Program} {X : Ctx} {F : Nat → Prop} {ι : Nat → Loc} {w : World}
theorem stW_wp (K : TyOk P X) {n : Nat} {ops : Array Oper} (hops : DstLt ops n) {i : Nat} {o : Oper} (ho : ops[i]? = some o) {h : Hint} {id : Nat} {s s' : St} {c : List Cnd}
 (hev : stW P X n ops o h id s = some (s', c)) (hc : AllTrue c) {a : Act} (H : HoldsS F n s ι a w) (hG : Gl P F ι w) {Kt : Act → World → Prop} {Q : Exit → Act → World → Prop}
 (hk : ∀ ι' a' w', HoldsS F n s' ι' a' w' → ExtA ι w ι' w' → Kt a' w') : wpOp P ops Q i Kt a w := by
 unfold stW at hev
 rw [getW_eq, getX_eq] at hev
 unfold wpOp
 rw [ho]
 simp only
 split at hev
 ·rename_i hd
  cases hw : wantedV ops (getV s.Γ) o.guard with
  | none => rw [hw] at hev; cases hev
  | some β =>
    rw [hw] at hev
    have hwt := wantedV_sound H hops hw
    cases β with
    | true =>
      simp only at hev
      cases hid : getE s.σ id with
      | some _ => rw [hid] at hev; cases hev
      | none =>
        rw [hid] at hev
        simp only at hev
        cases he : evOp P X (look (getV s.Γ)) (getE s.σ) id h o.op with
        | none => rw [he] at hev; cases hev
        | some out =>
          rw [he] at hev
          simp only at hev
          split at hev
          ·rename_i hlow
           obtain ⟨rfl, rfl⟩ := Prod.mk.inj (Option.some.inj hev)
           obtain ⟨hc1, hc2⟩ := hc.append
           rw [if_pos hwt]
           refine .inl (Oper.wp_mono ?_ (evOp_wp K H.mem hG H.slots hid he hc1))
           rintro a' w' ⟨u, rfl, hdone⟩
           obtain ⟨ι', h1, h2, h3⟩ := H.done hdone (dstOk_lt hd)
           refine hk ι' _ _ ?_ ⟨h2, lowL_same hlow h3⟩
           unfold HoldsS
           rw [put_Γ, upd_Γ, kill_Γ, put_σ, upd_σ, kill_σ, decideV_sound hc2]
           exact h1
          ·cases hev
    | false =>
      simp only at hev
      obtain ⟨rfl, rfl⟩ := Prod.mk.inj (Option.some.inj hev)
      rw [if_neg (by rw [hwt]; simp)]
      have := H.done (out := ⟨.tup .vnil, [], [], []⟩) (u := undef) (Done.pure H.mem rfl rfl ⟨#[], rfl, rfl⟩) (dstOk_lt hd)
      obtain ⟨ι', h1, h2, h3⟩ := this
      refine hk ι' _ _ ?_ ⟨h2, lowL_same rfl h3⟩
      unfold HoldsS
      rw [put_Γ, put_σ]
      simp only [killP_nil, V.kill_none] at h1
      have he : Go.Sw.after (getE s.σ) ⟨.tup .vnil, [], [], []⟩ = getE s.σ := by
       unfold Go.Sw.after updAll
       simp only [killP_nil, killE_none]
      rw [he] at h1
      exact h1
 ·cases hev
def StepOk (P : Program) (n : Nat) (ops : Array Oper) (i : Nat) (s s' : St) : Prop :=
 ∀ (F : Nat → Prop) (ι : Nat → Loc) (a : Act) (w : World) (Kt : Act → World → Prop) (Q : Exit → Act → World → Prop), HoldsS F n s ι a w → Gl P F ι w →
  (∀ ι' a' w', HoldsS F n s' ι' a' w' → ExtA ι w ι' w' → Kt a' w') → wpOp P ops Q i Kt a w
theorem StepOk.see {n : Nat} {ops : Array Oper} {i : Nat} {s s1 s2 s3 : St} (h1 : See n s s1) (h2 : StepOk P n ops i s1 s2) (h3 : See n s2 s3) : StepOk P n ops i s s3 := by
 intro F ι a w Kt Q H hG hk
 obtain ⟨ι1, H1, e1⟩ := h1 F ι a w H
 refine h2 F ι1 a w Kt Q H1 (hG.ext e1.ext) fun ι2 a2 w2 H2 e2 => ?_
 obtain ⟨ι3, H3, e3⟩ := h3 F ι2 a2 w2 H2
 exact hk ι3 a2 w2 H3 ((e1.trans e2).trans e3)
theorem stW_ok (K : TyOk P X) {n : Nat} {ops : Array Oper} (hops : DstLt ops n) {i : Nat} {o : Oper} (ho : ops[i]? = some o) {h : Hint} {id : Nat} {s s' : St} {c : List Cnd}
 (hev : stW P X n ops o h id s = some (s', c)) (hc : AllTrue c) : StepOk P n ops i s s' :=
 fun F ι a w Kt Q H hG hk => stW_wp K hops ho hev hc H hG hk
theorem free_name : ∀ σ : List (Nat × E), ∃ id, ∀ k, id ≤ k → getE σ k = none := by
 intro σ
 induction σ with
 | nil => exact ⟨0, fun _ _ => rfl⟩
 | cons p σ ih =>
   obtain ⟨id, h⟩ := ih
   obtain ⟨k, e⟩ := p
   refine ⟨max id (k + 1), fun j hj => ?_⟩
   rw [getE, if_neg (by omega)]
   exact h j (by omega)
theorem exMove_ok (K : TyOk P X) {n : Nat} {ops : Array Oper} (hops : DstLt ops n) {i : Nat} {o : Oper} (ho : ops[i]? = some o) {x : Operand} (hx : o.op = .move x ∨ o.op = .assign x) {s s' : St} (h : exMove n o x s = some s') : StepOk P n ops i s s' := by
 unfold exMove at h
 split at h
 ·rename_i hg
  split at h
  ·rename_i hd
   obtain rfl := Option.some.inj h
   obtain ⟨id, hid⟩ := free_name s.σ
   refine stW_ok (X := X) (h := .no) (id := id) (c := []) K hops ho ?_ trivial
   unfold stW
   rw [if_pos hd, hg]
   rw [getX_eq, hid id (Nat.le_refl _)]
   rcases hx with hx | hx <;> rw [hx] <;> rfl
  ·cases h
 ·cases h
end
def KnOk (v : Env) : Prop := ∀ g as r, v.kn g as = some r → CallPure v.P g as r
def CallOk (P : Program) (call : CallF) : Prop := ∀ own g as σi nx r σo nx' b, call own g as σi nx = some (r, σo, nx', b) →
 (b = true → ∃ k te el l q, r = .vec k te ∧ σo = [(q, .vec el te l)] ∧ CallOwn P g as el te l) ∧
 (b = false → (σi = [] → as.all V.pure = true → r.pure = true → CallPure P g as r) ∧ CallSt P g as σi r σo)
theorem V.ren_pure (f : Nat → Nat) : ∀ {v : V}, v.pure = true → v.ren f = v := by
 intro v
 induction v with
 | fn g a c ih1 ih2 => intro h; rw [V.pure, Bool.and_eq_true] at h; rw [V.ren, ih1 h.1, ih2 h.2]
 | agg l ih => intro h; rw [V.ren, ih h]
 | tup l ih => intro h; rw [V.ren, ih h]
 | vcons a b ih1 ih2 => intro h; rw [V.pure, Bool.and_eq_true] at h; rw [V.ren, ih1 h.1, ih2 h.2]
 | _ => intro h; first | rfl | cases h
theorem V.ren_back {f g : Nat → Nat} : ∀ {v : V}, (∀ k ∈ v.nms, f (g k) = k) → (v.ren g).ren f = v := by
 intro v
 induction v with
 | fn q a c ih1 ih2 => intro h; rw [V.ren, V.ren, ih1 fun k hk => h k (by simp [V.nms, hk]), ih2 fun k hk => h k (by simp [V.nms, hk])]
 | agg l ih => intro h; rw [V.ren, V.ren, ih h]
 | tup l ih => intro h; rw [V.ren, V.ren, ih h]
 | vcons a b ih1 ih2 => intro h; rw [V.ren, V.ren, ih1 fun k hk => h k (by simp [V.nms, hk]), ih2 fun k hk => h k (by simp [V.nms, hk])]
 | ptr k o => intro h; rw [V.ren, V.ren, h k (by simp [V.nms])]
 | elt k t i o => intro h; rw [V.ren, V.ren, h k (by simp [V.nms])]
 | vec k t => intro h; rw [V.ren, V.ren, h k (by simp [V.nms])]
 | sub k t i o => intro h; rw [V.ren, V.ren, h k (by simp [V.nms])]
 | _ => intro h; rfl
theorem renL_any {z z' : Nat} : ∀ {ρ : List (Nat × Nat)} {c : Nat}, (ρ.any fun p => p.1 == c) = true → renL ρ z c = renL ρ z' c := by
 intro ρ
 induction ρ with
 | nil => intro c h; cases h
 | cons p ρ ih =>
   intro c h
   obtain ⟨a, k⟩ := p
   rw [renL, renL]
   split
   ·rfl
   ·rename_i hne
    rw [List.any_cons, Bool.or_eq_true] at h
    rcases h with h | h
    ·exact absurd (by simpa using h) hne
    ·exact ih h
theorem okK_sound {ρ back : List (Nat × Nat)} {k : Nat} (h : okK ρ back k = true) (z : Nat) : renL ρ z (renL back 0 k) = k := by
 unfold okK at h
 rw [Bool.and_eq_true] at h
 rw [renL_any (z' := 0) h.1]
 simpa using h.2
theorem E.ren_back {ρ back : List (Nat × Nat)} {e : E} (h : okE ρ back (some e) = true) (z : Nat) : (e.ren (renL back 0)).ren (renL ρ z) = e := by
 cases e with
 | box t c =>
   rw [E.ren, E.ren, V.ren_back]
   intro k hk
   have : c.nms.all (okK ρ back) = true := h
   exact okK_sound (List.all_eq_true.1 this k hk) z
 | vec e t l => rfl
theorem entsC_back {σ : Nat → Option E} {ρ back : List (Nat × Nat)} (z : Nat) : ∀ {ks : List Nat}, ks.all (okK ρ back) = true → (ks.all fun k => okE ρ back (σ k)) = true →
 AllTrue (entsC σ (renL ρ z) (ks.filterMap fun k => (σ k).map fun e => (renL back 0 k, e.ren (renL back 0)))) := by
 intro ks
 induction ks with
 | nil => intro _ _; trivial
 | cons k ks ih =>
   intro h1 h2
   rw [List.all_cons, Bool.and_eq_true] at h1 h2
   cases he : σ k with
   | none => rw [he] at h2; cases h2.1
   | some e =>
     rw [he] at h2
     rw [List.filterMap_cons, he]
     refine ⟨?_, ih h1.2 h2.2⟩
     show σ (renL ρ z (renL back 0 k)) = some ((e.ren (renL back 0)).ren (renL ρ z))
     rw [okK_sound h1.1, E.ren_back h2.1, he]
theorem map_back {ρ back : List (Nat × Nat)} (z : Nat) : ∀ {l : List V}, (l.all fun v => v.nms.all (okK ρ back)) = true → (l.map (V.ren (renL back 0))).map (V.ren (renL ρ z)) = l := by
 intro l
 induction l with
 | nil => intro _; rfl
 | cons v l ih =>
   intro h
   rw [List.all_cons, Bool.and_eq_true] at h
   rw [List.map_cons, List.map_cons, ih h.2, V.ren_back]
   intro k hk
   exact okK_sound (List.all_eq_true.1 h.1 k hk) z
theorem AllTrue.append_mk : ∀ {a b : List Cnd}, AllTrue a → AllTrue b → AllTrue (a ++ b)
 | [], _, _, hb => hb
 | _ :: _, _, ha, hb => ⟨ha.1, AllTrue.append_mk ha.2 hb⟩
theorem isVnil_eq {v : V} (h : v.isVnil = true) : v = .vnil := by cases v <;> first | rfl | cases h
theorem callHint_true {v : Env} {call : CallF} (hkn : KnOk v) (hcall : CallOk v.P call) {own : Bool} {s : St} {nx nx' : Nat} {c : Call} {h : Hint} (hh : callHint v call own s nx c = some (h, nx')) {id : Nat} {out : Out}
 (hev : evOp v.P v.X (look (getV s.Γ)) (getE s.σ) id h (.call c) = some out) : AllTrue (out.c ++ (decideV h out.v).2) := by
 unfold callHint at hh
 rw [getW_eq, getX_eq] at hh
 obtain ⟨callee, args, ats⟩ := c
 cases callee with
 | invoke r m => cases hh
 | builtin b => cases hh
 | value f =>
   simp only at hh
   have other : ∀ {out : Out}, evOpB v.P v.X (look (getV s.Γ)) (getE s.σ) id h (.call ⟨.value f, args, ats⟩) = some out → out.c = [] := by
    intro out hB
    simp only [evOpB, evCallB] at hB
    split at hB
    ·split at hB
     ·split at hB
      ·split at hB
       ·obtain rfl := Option.some.inj hB; rfl
       ·cases hB
      ·cases hB
     ·split at hB
      ·split at hB
       ·unfold byteFn at hB
        split at hB
        ·obtain rfl := Option.some.inj hB; rfl
        ·split at hB
         ·obtain rfl := Option.some.inj hB; rfl
         ·cases hB
       ·cases hB
      ·cases hB
     ·cases hB
    ·cases hB
   have hev' : (∃ o, evCall v.P v.X (look (getV s.Γ)) (getE s.σ) id h ⟨.value f, args, ats⟩ = some o ∧ o = out) ∨ out.c = [] := by
    unfold evOp at hev
    simp only [firstB, evOpA] at hev
    split at hev
    ·rename_i r hr
     exact .inl ⟨r, hr, Option.some.inj hev⟩
    ·exact .inr (other hev)
   split at hh
   ·rename_i g fst cap hf
    split at hh
    ·-- known
     rename_i r hr
     obtain ⟨rfl, rfl⟩ := Prod.mk.inj (Option.some.inj hh)
     have hd : (decideV (.call r) out.v).2 = [] := rfl
     rw [hd, List.append_nil]
     rcases hev' with ⟨o, ho, rfl⟩ | h0
     ·unfold evCall at ho
      simp only [hf] at ho
      split at ho
      ·obtain rfl := Option.some.inj ho
       exact ⟨hkn _ _ _ hr, trivial⟩
      ·cases ho
     ·rw [h0]; trivial
    ·split at hh
     ·rename_i hok
      unfold okN at hok
      rw [Bool.and_eq_true, Bool.and_eq_true] at hok
      obtain ⟨⟨ok1, ok2⟩, ok3⟩ := hok
      split at hh
      ·rename_i r σo nx2 own2 hc
       have hC := hcall _ _ _ _ _ _ _ _ _ hc
       split at hh
       ·-- a row of its own
        rename_i hown
        obtain ⟨k, te, el, l, q, rfl, rfl, hO⟩ := hC.1 hown
        simp only at hh
        rw [dif_pos trivial] at hh
        obtain ⟨rfl, rfl⟩ := Prod.mk.inj (Option.some.inj hh)
        have hd : (decideV (.callO el te l) out.v).2 = [] := rfl
        rw [hd, List.append_nil]
        rcases hev' with ⟨o, ho, rfl⟩ | h0
        ·unfold evCall at ho
         simp only [hf] at ho
         split at ho
         ·rename_i hg
          obtain ⟨g1, g2, g3, g4⟩ := hg
          obtain rfl := Option.some.inj ho
          refine ⟨?_, trivial⟩
          have e1 := isVnil_eq g2
          have e2 := isVnil_eq g3
          subst e1
          subst e2
          have e3 : ∀ l : List V, l.all V.pure = true → ∀ f, l.map (V.ren f) = l := by
           intro l hl f
           rw [List.map_congr_left fun x hx => V.ren_pure f (List.all_eq_true.1 hl x hx)]
           simp
          have e4 : (V.vnil.toL ++ (coeArgs v.X ats.toList (args.toList.map (look (getV s.Γ))) ++ V.vnil.toL)) = coeArgs v.X ats.toList (args.toList.map (look (getV s.Γ))) := by simp [V.toL]
          rw [e4, e3 _ g4] at hO
          exact hO
         ·cases ho
        ·rw [h0]; trivial
       ·rename_i hown
        have hown' : own2 = false := by simpa using hown
        obtain ⟨hP, hS⟩ := hC.2 hown'
        split at hh
        ·-- pure
         rename_i hks
         obtain ⟨rfl, rfl⟩ := Prod.mk.inj (Option.some.inj hh)
         have hd : (decideV (.call r) out.v).2 = [] := rfl
         rw [hd, List.append_nil]
         rcases hev' with ⟨o, ho, rfl⟩ | h0
         ·unfold evCall at ho
          simp only [hf] at ho
          split at ho
          ·rename_i hg
           obtain ⟨g1, g2, g3, g4, g5⟩ := hg
           obtain rfl := Option.some.inj ho
           refine ⟨?_, trivial⟩
           have e1 := isVnil_eq g2
           have e2 := isVnil_eq g3
           subst e1
           subst e2
           have e3 : ∀ l : List V, l.all V.pure = true → ∀ f, l.map (V.ren f) = l := by
            intro l hl f
            rw [List.map_congr_left fun x hx => V.ren_pure f (List.all_eq_true.1 hl x hx)]
            simp
           have e4 : (V.vnil.toL ++ (coeArgs v.X ats.toList (args.toList.map (look (getV s.Γ))) ++ V.vnil.toL)) = coeArgs v.X ats.toList (args.toList.map (look (getV s.Γ))) := by simp [V.toL]
           rw [e4, e3 _ g4] at hP
           refine hP ?_ g4 g5
           rw [e4] at hks
           rw [hks]
           rfl
          ·cases ho
         ·rw [h0]; trivial
        ·obtain ⟨rfl, rfl⟩ := Prod.mk.inj (Option.some.inj hh)
         rename_i hks
         refine AllTrue.append_mk ?_ ?_
         ·rcases hev' with ⟨o, ho, rfl⟩ | h0
          ·unfold evCall at ho
           simp only [hf] at ho
           split at ho
           ·unfold evCallS at ho
            split at ho
            ·obtain rfl := Option.some.inj ho
             refine ⟨(map_back id ok3).symm, hS, entsC_back id ok1 ok2⟩
            ·cases ho
           ·cases ho
          ·rw [h0]; trivial
         ·trivial
      ·cases hh
     ·cases hh
   ·cases hh
end Go.Sw

namespace Go.Sw
section
variable {P : Program} {X : Ctx} {K : Ex → St → Prop} {n : Nat}
theorem Run.see {c : Code} {s s' : St} (h : See n s s') (hr : Run P n c s' K) : Run P n c s K := by
 intro F ι a w H hG
 obtain ⟨ι', H', e'⟩ := h F ι a w H
 refine wp_mono (hr F ι' a w H' (hG.ext e'.ext)) ?_
 rintro e a1 w1 ⟨x, s1, ι1, rfl, hK, H1, e1⟩
 exact ⟨x, s1, ι1, rfl, hK, H1, e'.trans e1⟩
theorem Run.post {c : Code} {s : St} {K' : Ex → St → Prop} (hr : Run P n c s K') (h : ∀ x t, K' x t → ∃ t', See n t t' ∧ K x t') : Run P n c s K := by
 intro F ι a w H hG
 refine wp_mono (hr F ι a w H hG) ?_
 rintro e a1 w1 ⟨x, s1, ι1, rfl, hK, H1, e1⟩
 obtain ⟨t', hs, hk⟩ := h x s1 hK
 obtain ⟨ι2, H2, e2⟩ := hs F ι1 a1 w1 H1
 exact ⟨x, t', ι2, rfl, hk, H2, e1.trans e2⟩
theorem ltO_spec : ∀ {l : List Oper}, ltO n l = true → ∀ o ∈ l, dstOk n o.dst = true := by
 intro l
 induction l with
 | nil => intro _ o h; cases h
 | cons x l ih =>
   intro h o ho
   rw [ltO, Bool.and_eq_true] at h
   rcases List.mem_cons.1 ho with rfl | ho
   ·exact h.1
   ·exact ih h.2 o ho
theorem ltO_dst {ops : Array Oper} (h : ltO n ops.toList = true) : DstLt ops n := by
 intro j o d ho hd
 refine dstOk_lt (ltO_spec h o ?_) d hd
 have := Array.mem_of_getElem? ho
 simpa using this
end
section
variable {v : Env} {n : Nat} {ops : Array Oper}
theorem stepH_ok (K : TyOk v.P v.X) (hops : DstLt ops n) {i : Nat} {o : Oper} (ho : ops[i]? = some o) {id : Nat} {s s' : St} : ∀ {hs : List Hint}, stepH v n ops o id s hs = some s' → StepOk v.P n ops i s s' := by
 intro hs
 induction hs with
 | nil => intro h; cases h
 | cons x hs ih =>
   intro h
   rw [stepH] at h
   split at h
   ·rename_i r hr
    split at h
    ·rename_i hok
     obtain rfl := Option.some.inj h
     exact stW_ok K hops ho hr (okAll_true hok)
    ·exact ih h
   ·exact ih h
theorem exGen_ok (K : TyOk v.P v.X) (hops : DstLt ops n) {i : Nat} {o : Oper} (ho : ops[i]? = some o) {s s' : St} {nx : Nat} {hs : List Hint} (h : exGen v n ops o s nx hs = some s') : StepOk v.P n ops i s s' := by
 unfold exGen at h
 split at h
 ·rename_i r hr
  obtain rfl := Option.some.inj h
  exact stepH_ok K hops ho hr
 ·exact StepOk.see (solidSlots_see _ _) (stepH_ok K hops ho h) (See.refl _ _)
theorem exCallG_ok (K : TyOk v.P v.X) (hkn : KnOk v) {call : CallF} (hcall : CallOk v.P call) (hops : DstLt ops n) {i : Nat} {o : Oper} (ho : ops[i]? = some o) {c : Call} (hc : o.op = .call c) {s s' : St} {nx : Nat}
 (h : exCallG v call n ops o c s nx = some s') : StepOk v.P n ops i s s' := by
 unfold exCallG at h
 simp only at h
 split at h
 ·rename_i hh nx' hch
  split at h
  ·rename_i r hr
   obtain rfl := Option.some.inj h
   obtain ⟨s1, c1⟩ := r
   refine StepOk.see (freezes_see _ _) (stW_ok K hops ho hr ?_) (See.refl _ _)
   unfold stW at hr
   rw [getW_eq, getX_eq] at hr
   split at hr
   ·split at hr
    ·split at hr
     ·cases hr
     ·split at hr
      ·rename_i out hev
       split at hr
       ·obtain ⟨rfl, rfl⟩ := Prod.mk.inj (Option.some.inj hr)
        rw [hc] at hev
        exact callHint_true hkn hcall hch hev
       ·cases hr
      ·cases hr
    ·obtain ⟨rfl, rfl⟩ := Prod.mk.inj (Option.some.inj hr)
     trivial
    ·cases hr
   ·cases hr
  ·cases h
 ·cases h
theorem map_fst {α : Type} {a : Option α} {nx nx' : Nat} {s' : α} (h : (a.map fun x => (x, nx)) = some (s', nx')) : a = some s' := by
 cases a with
 | none => cases h
 | some x => obtain ⟨rfl, _⟩ := Prod.mk.inj (Option.some.inj h); rfl
theorem exOp_ok (K : TyOk v.P v.X) (hkn : KnOk v) {call : CallF} (hcall : CallOk v.P call) (hops : DstLt ops n) {i : Nat} {o : Oper} (ho : ops[i]? = some o) {s s' : St} {nx nx' : Nat}
 (h : exOp v call n ops o s nx = some (s', nx')) : StepOk v.P n ops i s s' := by
 unfold exOp at h
 split at h
 ·rename_i t hop
  split at h
  ·rename_i s1 hs
   have h' := Option.some.inj h
   have : s' = (nameParts v nx (fieldsOf v t) s1 (nx + 1)).1 := by rw [h']
   rw [this]
   exact StepOk.see (See.refl _ _) (exGen_ok K hops ho hs) (nameParts_see _ _ _ _ _)
  ·cases h
 ·rename_i c hc
  split at h
  ·exact exCallG_ok K hkn hcall hops ho hc (map_fst h)
  ·exact exGen_ok K hops ho (map_fst h)
 all_goals exact exGen_ok K hops ho (map_fst h)
theorem exStep_ok (K : TyOk v.P v.X) (hkn : KnOk v) {call : CallF} (hcall : CallOk v.P call) (hops : DstLt ops n) {i : Nat} {o : Oper} (ho : ops[i]? = some o) {s s' : St} {nx nx' : Nat}
 (h : exStep v call n ops o s nx = some (s', nx')) : StepOk v.P n ops i s s' := by
 unfold exStep at h
 split at h
 ·rename_i x hx
  split at h
  ·rename_i s1 hs
   obtain ⟨rfl, _⟩ := Prod.mk.inj (Option.some.inj h)
   exact exMove_ok K hops ho (.inl hx) hs
  ·exact exOp_ok K hkn hcall hops ho h
 ·rename_i x hx
  split at h
  ·rename_i s1 hs
   obtain ⟨rfl, _⟩ := Prod.mk.inj (Option.some.inj h)
   exact exMove_ok K hops ho (.inr hx) hs
  ·exact exOp_ok K hkn hcall hops ho h
 ·exact exOp_ok K hkn hcall hops ho h
def Al (ops : Array Oper) : List Nat → List Oper → Prop
 | [], [] => True
 | i :: is, o :: os => ops[i]? = some o ∧ Al ops is os
 | _, _ => False
theorem Al.range (ops : Array Oper) : ∀ (l : List Oper) (k : Nat), (∀ j, j < l.length → ops[k + j]? = l[j]?) → Al ops (List.range' k l.length) l := by
 intro l
 induction l with
 | nil => intro k _; trivial
 | cons o l ih =>
   intro k h
   rw [List.length_cons, List.range'_succ]
   refine ⟨by have := h 0 (by simp); simpa using this, ih (k + 1) fun j hj => ?_⟩
   have := h (j + 1) (by simpa using hj)
   rw [show k + 1 + j = k + (j + 1) by omega, this]
   simp
theorem Al.all (ops : Array Oper) : Al ops (List.range ops.size) ops.toList := by
 have := Al.range ops ops.toList 0 fun j hj => by simp
 rw [List.range_eq_range']
 simpa using this
theorem exOps_wp (K : TyOk v.P v.X) (hkn : KnOk v) {call : CallF} (hcall : CallOk v.P call) (hops : DstLt ops n) : ∀ {os : List Oper} {is : List Nat} {s s' : St} {nx nx' : Nat}, Al ops is os → exOps v call n ops os s nx = some (s', nx') →
 ∀ {F : Nat → Prop} {ι : Nat → Loc} {a : Act} {w : World}, HoldsS F n s ι a w → Gl v.P F ι w → ∀ {Q : Exit → Act → World → Prop},
 (∀ ι' a' w', HoldsS F n s' ι' a' w' → ExtA ι w ι' w' → Q .normal a' w') → wpOps v.P ops Q is a w := by
 intro os
 induction os with
 | nil =>
   intro is s s' nx nx' hal h F ι a w H hG Q hk
   obtain ⟨rfl, _⟩ := Prod.mk.inj (Option.some.inj h)
   cases is with
   | nil => exact hk ι a w H (ExtA.refl _ _)
   | cons _ _ => exact hal.elim
 | cons o os ih =>
   intro is s s' nx nx' hal h F ι a w H hG Q hk
   cases is with
   | nil => exact hal.elim
   | cons i is =>
     rw [exOps] at h
     split at h
     ·rename_i r hr
      obtain ⟨s1, nx1⟩ := r
      rw [wpOps_cons]
      refine exStep_ok K hkn hcall hops hal.1 hr F ι a w _ Q H hG fun ι1 a1 w1 H1 e1 => ?_
      exact ih hal.2 h H1 (hG.ext e1.ext) fun ι2 a2 w2 H2 e2 => hk ι2 a2 w2 H2 (e1.trans e2)
     ·cases h
end
section
variable {v : Env} {n : Nat} {ops : Array Oper}
theorem evTk_hint {P : Program} {X : Ctx} {base i : Nat} {s : St} {hs hs' : List (Nat × Hint)} (h : hintAt hs i = hintAt hs' i) : evTk P X n ops hs base i s = evTk P X n ops hs' base i s := by
 unfold evTk
 rw [h]
theorem hintAt_one {i : Nat} {h : Hint} : hintAt [(i, h)] i = h := by simp [hintAt]
theorem tkH_ok {i base : Nat} {s : St} {h : Hint} {k : Tk} : ∀ {hs : List Hint}, tkH v n ops i base s hs = some (h, k) → evTk v.P v.X n ops [(i, h)] base i s = some k ∧ AllTrue k.c := by
 intro hs
 induction hs with
 | nil => intro h; cases h
 | cons x hs ih =>
   intro h
   rw [tkH] at h
   split at h
   ·rename_i k' hk
    split at h
    ·rename_i hok
     obtain ⟨rfl, rfl⟩ := Prod.mk.inj (Option.some.inj h)
     exact ⟨hk, okAll_true hok⟩
    ·exact ih h
   ·exact ih h
theorem exTk_ok (hkn : KnOk v) {call : CallF} (hcall : CallOk v.P call) {base i : Nat} {s : St} {nx nx' : Nat} {h : Hint} {k : Tk} (hx : exTk v call n ops base i s nx = some ((h, k), nx')) :
 evTk v.P v.X n ops [(i, h)] base i s = some k ∧ AllTrue k.c := by
 unfold exTk at hx
 split at hx
 ·cases hx
 ·rename_i o ho
  split at hx
  ·rename_i c hw hc
   split at hx
   ·rename_i h1 nx1 hch
    split at hx
    ·rename_i k1 hk
     obtain ⟨hp, _⟩ := Prod.mk.inj (Option.some.inj hx)
     obtain ⟨rfl, rfl⟩ := Prod.mk.inj hp
     refine ⟨hk, ?_⟩
     have hcc : o.op = .call c := by
      unfold isCallV at hc
      split at hc
      ·rename_i c' hop
       split at hc
       ·split at hc
        ·split at hc
         ·obtain rfl := Option.some.inj hc; exact hop
         ·cases hc
        ·cases hc
       ·cases hc
      ·cases hc
     unfold evTk at hk
     rw [ho] at hk
     simp only at hk
     split at hk
     ·split at hk
      ·split at hk
       ·cases hk
       ·split at hk
        ·rename_i out hev
         split at hk
         ·obtain rfl := Option.some.inj hk
          rw [hcc, hintAt_one] at hev
          simp only [hintAt_one]
          exact callHint_true hkn hcall hch hev
         ·cases hk
        ·cases hk
      ·obtain rfl := Option.some.inj hk; trivial
      ·cases hk
     ·cases hk
    ·cases hx
   ·cases hx
  ·split at hx
   ·rename_i r hr
    obtain ⟨rfl, _⟩ := Prod.mk.inj (Option.some.inj hx)
    exact tkH_ok hr
   ·cases hx
theorem exTks_ok (hkn : KnOk v) {call : CallF} (hcall : CallOk v.P call) {base : Nat} : ∀ {m i : Nat} {s s' : St} {nx nx' : Nat} {hs : List (Nat × Hint)} {ks : List Tk}, exTks v call n ops base m i s nx = some (hs, ks, s', nx') →
 (∀ HS, (∀ j, i ≤ j → hintAt HS j = hintAt hs j) → evTks v.P v.X n ops HS base m i s = some (ks, s')) ∧ ∀ k ∈ ks, AllTrue k.c := by
 intro m
 induction m with
 | zero =>
   intro i s s' nx nx' hs ks h
   rw [exTks] at h
   have h := Option.some.inj h
   simp only [Prod.mk.injEq] at h
   obtain ⟨rfl, rfl, rfl, rfl⟩ := h
   exact ⟨fun _ _ => rfl, fun k hk => by cases hk⟩
 | succ m ih =>
   intro i s s' nx nx' hs ks h
   rw [exTks] at h
   split at h
   ·rename_i h1 k1 nx1 hk
    split at h
    ·rename_i hs1 ks1 s1 nx2 hr
     have h := Option.some.inj h
     simp only [Prod.mk.injEq] at h
     obtain ⟨rfl, rfl, rfl, rfl⟩ := h
     obtain ⟨a1, a2⟩ := exTk_ok hkn hcall hk
     obtain ⟨b1, b2⟩ := ih hr
     refine ⟨fun HS hHS => ?_, fun k hk => ?_⟩
     ·rw [evTks, evTk_hint (hs' := [(i, h1)]) (by rw [hHS i (Nat.le_refl _), hintAt_one, hintAt, if_pos rfl]), a1]
      simp only
      rw [b1 HS fun j hj => by rw [hHS j (by omega), hintAt, if_neg (by omega)]]
     ·rcases List.mem_cons.1 hk with rfl | hk
      ·exact a2
      ·exact b2 k hk
    ·cases h
   ·cases h
theorem solidD_see (v : Env) (ops : Array Oper) (s : St) : See n s (solidD v ops s) := (solidSlots_see _ _).trans (freezes_see _ _)
theorem exRegD_ok (hT : TyOk v.P v.X) (hkn : KnOk v) {call : CallF} (hcall : CallOk v.P call) (hops : DstLt ops n) {id : Nat} {s s' : St} {nx nx' : Nat} (h : exRegD v call n ops s nx = some (s', nx')) {K : Ex → St → Prop} (hK : K .nrm s') : Run v.P n (.region id ops true) s K := by
 unfold exRegD at h
 simp only at h
 refine Run.see (solidD_see v ops s) ?_
 generalize solidD v ops s = s at h ⊢
 split at h
 ·rename_i hs tks s1 nx1 he
  split at h
  ·rename_i hord
   obtain ⟨rfl, _⟩ := Prod.mk.inj (Option.some.inj h)
   obtain ⟨he', hc⟩ := exTks_ok hkn hcall he
   have he := he' hs fun _ _ => rfl
   intro F ι a w H hG
   obtain ⟨l1, l2, l3, l4⟩ := evTks_spec ops.size 0 s s1 tks (getV s.Γ) (getE s.σ) [] rfl he rfl rfl
   simp only [List.nil_append, Nat.zero_add] at l2 l3 l4
   have htk : ∀ (i : Nat) (k : Tk), tks[i]? = some k → tkAt tks i = k := by
    intro i k h
    simp [tkAt, h]
   have O := ordOk_spec htk l1 hord
   refine wp_region_any hT.mixed ?_
   have hdrew := Turn.drew H.mem (w := w)
   have H0 : Holds F n (getV s.Γ) (getE s.σ) ι a w.drew :=
    ⟨H.defers, H.size, fun t => repV_same hdrew.stay hdrew.same (H.slots t), hdrew.mem.ents, hdrew.mem.dead, hdrew.mem.inj, hdrew.mem.foreign⟩
   refine any_main (F := F) hT hops O (γ0 := getV s.Γ) (σ0 := getE s.σ) rfl rfl (fun j hj => l2 j (Nat.zero_le _) hj) (fun j hj => ?_) (ι0 := ι) (w0 := w.drew) (hG.ext hdrew.ext) (fun ι1 a1 w1 H1 e1 => ?_) ops.size _ ι a w.drew (by simp) ?_ ?_ ?_ (ExtA.refl _ _)
   ·refine hc _ ?_
    unfold tkAt
    have : j < tks.length := by omega
    simp [this]
   ·rw [← l3, ← l4] at H1
    exact ⟨.nrm, s1, ι1, rfl, hK, H1, ExtA.trans ⟨hdrew.ext, hdrew.same.weak fun _ _ => rfl⟩ e1⟩
   ·refine Nat.le_trans List.count_le_length ?_
    simp
   ·intro i j hj hi
    exfalso
    unfold lstB at hi
    simp [Array.getElem?_replicate] at hi
    split at hi <;> simp at hi
   ·have h1 : ∀ j, lstB (Array.replicate ops.size false) j = false := by
     intro j
     unfold lstB
     simp [Array.getElem?_replicate]
     split <;> simp
    have h2 : ∀ m, gam (getV s.Γ) (fun j => (tkAt tks j).tr) (lstB (Array.replicate ops.size false)) m = getV s.Γ := by
     intro m
     induction m with
     | zero => rfl
     | succ m ih => rw [gam, h1, ih]; simp
    have h3 : ∀ m, sig (getE s.σ) (fun j => (tkAt tks j).tr) (lstB (Array.replicate ops.size false)) m = getE s.σ := by
     intro m
     induction m with
     | zero => rfl
     | succ m ih => rw [sig, h1, ih]; simp
    rw [h2, h3]
    exact H0
  ·cases h
 ·cases h
end
section
variable {v : Env} {n ex : Nat}
theorem exCode_ok (hT : TyOk v.P v.X) (hkn : KnOk v) {call : CallF} (hcall : CallOk v.P call) : ∀ (fuel : Nat) {c : Code} {s : St} {nx : Nat} {x : Ex} {s' : St} {nx' : Nat}, ltC n c = true → exCode v call n ex fuel c s nx = some (x, s', nx') →
 ∀ {K : Ex → St → Prop}, K x s' → Run v.P n c s K := by
 intro fuel
 induction fuel using Nat.strongRecOn with
 | _ fuel ih =>
   intro c s nx x s' nx' hlt h K hK
   cases fuel with
   | zero => rw [exCode] at h; cases h
   | succ k =>
     cases c with
     | skip =>
       rw [exCode] at h
       have h := Option.some.inj h
       simp only [Prod.mk.injEq] at h
       obtain ⟨rfl, rfl, rfl⟩ := h
       exact Run.skip hK
     | ret =>
       rw [exCode] at h
       have h := Option.some.inj h
       simp only [Prod.mk.injEq] at h
       obtain ⟨rfl, rfl, rfl⟩ := h
       exact Run.ret hK
     | exit id =>
       rw [exCode] at h
       have h := Option.some.inj h
       simp only [Prod.mk.injEq] at h
       obtain ⟨rfl, rfl, rfl⟩ := h
       exact Run.exit hK
     | region id ops d =>
       have hops : DstLt ops n := ltO_dst hlt
       cases d with
       | false =>
         rw [exCode] at h
         split at h
         ·rename_i s1 nx1 he
          have h := Option.some.inj h
          simp only [Prod.mk.injEq] at h
          obtain ⟨rfl, rfl, rfl⟩ := h
          intro F ι a w H hG
          refine wp_region (exOps_wp hT hkn hcall hops (Al.all ops) he H hG fun ι1 a1 w1 H1 e1 => ?_)
          obtain ⟨ι2, H2, e2⟩ := prune_see s1 ex F ι1 a1 w1 H1
          exact ⟨.nrm, _, ι2, rfl, hK, H2, e1.trans e2⟩
         ·cases h
       | true =>
         rw [exCode] at h
         split at h
         ·rename_i s1 nx1 he
          have h := Option.some.inj h
          simp only [Prod.mk.injEq] at h
          obtain ⟨rfl, rfl, rfl⟩ := h
          refine Run.post (K' := fun x t => x = .nrm ∧ t = s1) (exRegD_ok hT hkn hcall hops he ⟨rfl, rfl⟩) ?_
          rintro x t ⟨rfl, rfl⟩
          exact ⟨_, prune_see _ ex, hK⟩
         ·cases h
     | seq a b =>
       rw [ltC, Bool.and_eq_true] at hlt
       rw [exCode] at h
       split at h
       ·rename_i s1 nx1 he
        refine Run.seq (ih k (Nat.lt_succ_self _) hlt.1 he ?_)
        exact ih k (Nat.lt_succ_self _) hlt.2 h hK
       ·rename_i hne
        refine Run.seq (ih k (Nat.lt_succ_self _) hlt.1 h ?_)
        cases x with
        | nrm => exact absurd h (hne _ _)
        | out id => exact hK
        | ret => exact hK
     | cond o a b =>
       rw [ltC, Bool.and_eq_true] at hlt
       rw [exCode, getW_eq] at h
       split at h
       ·rename_i hb
        exact Run.cond true hb (fun _ => ih k (Nat.lt_succ_self _) hlt.1 h hK) (fun h => by cases h)
       ·rename_i hb
        exact Run.cond false hb (fun h => by cases h) (fun _ => ih k (Nat.lt_succ_self _) hlt.2 h hK)
       ·cases h
     | block id b =>
       rw [exCode] at h
       split at h
       ·rename_i j s1 nx1 he
        refine Run.block (ih k (Nat.lt_succ_self _) (by exact hlt) he ?_)
        show if j = id then K .nrm s1 else K (.out j) s1
        split at h
        ·rename_i hj
         have h := Option.some.inj h
         simp only [Prod.mk.injEq] at h
         obtain ⟨rfl, rfl, rfl⟩ := h
         rw [if_pos hj]; exact hK
        ·rename_i hj
         have h := Option.some.inj h
         simp only [Prod.mk.injEq] at h
         obtain ⟨rfl, rfl, rfl⟩ := h
         rw [if_neg hj]; exact hK
       ·rename_i hne
        refine Run.block (ih k (Nat.lt_succ_self _) (by exact hlt) h ?_)
        cases x with
        | nrm => exact hK
        | out j => exact absurd h (hne _ _ _)
        | ret => exact hK
     | loop b =>
       refine Run.loop (fun m t => m ≤ k + 1 ∧ ∃ nx nx', exCode v call n ex m (.loop b) t nx = some (x, s', nx')) ?_ (k + 1) ⟨Nat.le_refl _, nx, nx', h⟩
       rintro m t ⟨hm, nx1, nx2, he⟩
       cases m with
       | zero => rw [exCode] at he; cases he
       | succ j =>
         rw [exCode] at he
         split at he
         ·rename_i s0 ht
          refine Run.see (tidy_see ht) ?_
          split at he
          ·rename_i s1 nx3 hb
           exact ih j (by omega) (by exact hlt) hb ⟨j, Nat.lt_succ_self _, by omega, _, _, he⟩
          ·rename_i hne
           refine ih j (by omega) (by exact hlt) he ?_
           cases x with
           | nrm => exact absurd he (hne _ _)
           | out id => exact hK
           | ret => exact hK
         ·cases he
     | _ => rw [exCode] at h <;> first | cases h | (intros; contradiction)
end
theorem CallPure.ofSt {P : Program} {f : FuncId} {args : List V} {r : V} {σo : List (Nat × E)} (h : CallSt P f args [] r σo) (hp : r.pure = true) : CallPure P f args r := by
 intro F w vals hF hG hargs
 have H : HoldsE F (getE []) dead w := ⟨fun id e he => (by cases he), fun id _ => rfl, fun id id' B m m' h => (by cases h), fun b hb => ⟨hF b hb, fun id m h => (by cases h)⟩⟩
 refine Calls.mono (h F dead w vals H hG hargs) ?_
 rintro e w1 ⟨x, ι', rfl, hr, H1, e1⟩
 refine ⟨x, rfl, ?_, ⟨e1.ext.os, e1.ext.tape, e1.ext.output, e1.ext.size, e1.ext.keep, fun id B m h => (by cases h)⟩⟩
 exact repV_pure ⟨fun b hb => ⟨hb.1, hb.2.1, fun id m h => by cases h⟩, fun _ _ _ _ h => h⟩ hp hr
theorem keep_keys {s s' : St} {ts ids : List Nat} (h : s.keep ts ids = some s') : s'.σ.map (·.1) = ids := by
 unfold St.keep at h
 split at h
 ·have key : ∀ (f : Nat → Option E) (ids : List Nat) (l : List (Nat × E)), (ids.mapM fun id => (f id).map fun e => (id, e.kill fun id => !((s'.σ.map (·.1))).contains id)) = some l → True := fun _ _ _ _ => trivial
  have gen : ∀ (f : Nat → Option (Nat × E)) (hf : ∀ id p, f id = some p → p.1 = id) (ids : List Nat) (l : List (Nat × E)), ids.mapM f = some l → l.map (·.1) = ids := by
   intro f hf ids
   induction ids with
   | nil => intro l h; simp at h; subst h; rfl
   | cons i ids ih =>
     intro l h
     rw [List.mapM_cons] at h
     cases h1 : f i with
     | none => rw [h1] at h; cases h
     | some p =>
       rw [h1] at h
       cases h2 : ids.mapM f with
       | none => rw [h2] at h; cases h
       | some l' =>
         rw [h2] at h
         simp only [Option.bind_eq_bind, Option.bind_some, Option.pure_def, Option.some.injEq] at h
         subst h
         rw [List.map_cons, ih l' h2, hf _ _ h1]
  cases hm : (ids.mapM fun id => (getE s.σ id).map fun e => (id, e.kill fun id => !ids.contains id)) with
  | none => rw [hm] at h; cases h
  | some σ =>
    rw [hm] at h
    obtain rfl := Option.some.inj h
    refine gen _ (fun id p hp => ?_) ids σ hm
    cases he : getE s.σ id with
    | none => rw [he] at hp; cases hp
    | some e => rw [he] at hp; obtain rfl := Option.some.inj hp; rfl
 ·cases h
theorem exFn_ok {v : Env} (hT : TyOk v.P v.X) (hkn : KnOk v) : ∀ fuel, CallOk v.P (exFn v fuel) := by
 intro fuel
 induction fuel with
 | zero => intro own g as σi nx r σo nx' b h; cases h
 | succ k ih =>
   intro own g as σi nx r σo nx' b h
   rw [exFn] at h
   simp only at h
   split at h
   ·rename_i fn hf
    split at h
    ·rename_i c hb
     split at h
     ·rename_i hck
      rw [Bool.and_eq_true] at hck
      obtain ⟨hlt, hle⟩ := hck
      have hle := Nat.le_of_ble_eq_true hle
      have main : ∀ (x : Ex) (s : St) (nx1 : Nat), (∀ id, x ≠ .out id) → exCode v (exFn v k) fn.ntmps (exposF fn) 1000000 c ⟨args0 0 as, σi⟩ nx = some (x, s, nx1) →
       (match ownRes fn.results.toList σi own s with
         | some (r, σo) => some (r, σo, nx1, true)
         | none => match rets v fn σi (solidRes v fn s) with
           | some (r, σo) => some (r, σo, nx1, false)
           | none => none) = some (r, σo, nx', b) →
       (b = true → ∃ k te el l q, r = .vec k te ∧ σo = [(q, .vec el te l)] ∧ CallOwn v.P g as el te l) ∧
       (b = false → (σi = [] → as.all V.pure = true → r.pure = true → CallPure v.P g as r) ∧ CallSt v.P g as σi r σo) := by
       intro x s nx1 hx he h
       have hrun : ∀ {K : Ex → St → Prop}, K x s → Run v.P fn.ntmps c ⟨args0 0 as, σi⟩ K := fun hK => exCode_ok hT hkn ih 1000000 hlt he hK
       split at h
       ·rename_i r1 σ1 hown
        have h := Option.some.inj h
        simp only [Prod.mk.injEq] at h
        obtain ⟨rfl, rfl, rfl, rfl⟩ := h
        refine ⟨fun _ => ?_, fun h => (by cases h)⟩
        unfold ownRes at hown
        rw [getW_eq] at hown
        split at hown
        ·rename_i t hrs
         split at hown
         ·rename_i k1 te hv
          split at hown
          ·rename_i t' k' te' q el te2 l hkp
           split at hown
           ·rename_i hq
            obtain ⟨rfl, rfl, rfl, rfl⟩ := hq
            have hown := Option.some.inj hown
            simp only [Prod.mk.injEq] at hown
            obtain ⟨rfl, rfl⟩ := hown
            refine ⟨_, _, _, _, _, rfl, rfl, ?_⟩
            refine callOwn_of_run (X := v.X) hT hf hb hle (hrun ?_)
            cases x with
            | out id => exact absurd rfl (hx id)
            | nrm => exact ⟨_, _, hrs, hkp⟩
            | ret => exact ⟨_, _, hrs, hkp⟩
           ·cases hown
          ·cases hown
         ·cases hown
        ·cases hown
       ·split at h
        ·rename_i r1 σ1 hr
         have h := Option.some.inj h
         simp only [Prod.mk.injEq] at h
         obtain ⟨rfl, rfl, rfl, rfl⟩ := h
         refine ⟨fun h => (by cases h), fun _ => ?_⟩
         have hS : CallSt v.P g as σi r1 σ1 := by
          unfold rets at hr
          split at hr
          ·rename_i l hl
           split at hr
           ·rename_i r2 hr2
            split at hr
            ·rename_i s2 hkp
             have hr := Option.some.inj hr
             simp only [Prod.mk.injEq] at hr
             obtain ⟨rfl, rfl⟩ := hr
             refine callSt_of_runR (tys := fn.resultTypes.toList) hT hf hb hle (Run.post (K' := fun y t => y = x ∧ t = s) (hrun ⟨rfl, rfl⟩) ?_)
             rintro y t ⟨rfl, rfl⟩
             refine ⟨_, solidRes_see v fn t, ?_⟩
             have hend : ∃ l s', evRes v.X (solidRes v fn t) fn.results.toList fn.resultTypes.toList = some l ∧ (resV l).map (V.kill fun id => !(s2.σ.map (·.1)).contains id) = some (r2.kill fun id => !(s2.σ.map (·.1)).contains id) ∧ (solidRes v fn t).keep [] (s2.σ.map (·.1)) = some s' ∧ s'.σ = s2.σ :=
              ⟨l, s2, hl, by rw [hr2]; rfl, by rw [keep_keys hkp]; exact hkp, rfl⟩
             cases y with
             | out id => exact absurd rfl (hx id)
             | nrm => exact hend
             | ret => exact hend
            ·cases hr
           ·cases hr
          ·cases hr
         refine ⟨fun h1 _ hp => ?_, hS⟩
         subst h1
         exact CallPure.ofSt hS hp
        ·cases h
      split at h
      ·cases h
      ·rename_i x s nx1 hx he
       exact main x s nx1 (fun id hid => by subst hid; exact hx _ rfl) he h
      ·cases h
     ·cases h
    ·cases h
   ·cases h
theorem ex_pure {v : Env} (hT : TyOk v.P v.X) (hkn : KnOk v) {fuel : Nat} {g : Nat} {as : List V} {r : V} (hp : r.pure = true)
 (h : ((exFn v fuel false g as [] 300).map fun q => (q.1, q.2.2.2)) = some (r, false)) : CallPure v.P g as r := by
 cases hx : exFn v fuel false g as [] 300 with
 | none => rw [hx] at h; cases h
 | some q =>
   obtain ⟨r1, σo, nx, b⟩ := q
   rw [hx] at h
   have h := Option.some.inj h
   simp only [Prod.mk.injEq] at h
   obtain ⟨rfl, rfl⟩ := h
   exact CallPure.ofSt ((exFn_ok hT hkn fuel _ _ _ _ _ _ _ _ _ hx).2 rfl).2 hp
end Go.Sw

namespace Go.Sw
open Go
def k0 {R : Type} (F : Option R) (rv : R → V) : List V → Option V
 | [] => F.map rv
 | _ => none
def k1 (t : T) {R : Type} (F : t.D → Option R) (rv : R → V) : List V → Option V
 | [.d u x] => (T.cast t x).bind fun a => (F a).map rv
 | _ => none
def k2 (t1 t2 : T) {R : Type} (F : t1.D → t2.D → Option R) (rv : R → V) : List V → Option V
 | [.d u1 x1, .d u2 x2] => (T.cast t1 x1).bind fun a => (T.cast t2 x2).bind fun b => (F a b).map rv
 | _ => none
def k4 (t1 t2 t3 t4 : T) {R : Type} (F : t1.D → t2.D → t3.D → t4.D → Option R) (rv : R → V) : List V → Option V
 | [.d u1 x1, .d u2 x2, .d u3 x3, .d u4 x4] => (T.cast t1 x1).bind fun a => (T.cast t2 x2).bind fun b => (T.cast t3 x3).bind fun c => (T.cast t4 x4).bind fun d => (F a b c d).map rv
 | _ => none
section
variable {P : Program} {f : FuncId} {vs : List V} {q : V}
theorem bind_some' {α β : Type} {a : Option α} {k : α → Option β} {r : β} (h : a.bind k = some r) : ∃ x, a = some x ∧ k x = some r := by
 cases a with
 | none => cases h
 | some x => exact ⟨x, rfl, h⟩
theorem map_some' {α β : Type} {a : Option α} {k : α → β} {r : β} (h : a.map k = some r) : ∃ x, a = some x ∧ k x = r := by
 cases a with
 | none => cases h
 | some x => exact ⟨x, rfl, Option.some.inj h⟩
theorem k0_ok {R : Type} {F : Option R} {rv : R → V} (h : ∀ r, F = some r → CallPure P f [] (rv r)) (hk : k0 F rv vs = some q) : CallPure P f vs q := by
 unfold k0 at hk
 split at hk
 ·obtain ⟨r, hr, rfl⟩ := map_some' hk
  exact h r hr
 ·cases hk
theorem k1_ok {t : T} {R : Type} {F : t.D → Option R} {rv : R → V} (h : ∀ a r, F a = some r → CallPure P f [.d t a] (rv r)) (hk : k1 t F rv vs = some q) : CallPure P f vs q := by
 unfold k1 at hk
 split at hk
 ·obtain ⟨a, ha, hk⟩ := bind_some' hk
  obtain ⟨rfl, rfl⟩ := T.cast_some ha
  obtain ⟨r, hr, rfl⟩ := map_some' hk
  exact h _ r hr
 ·cases hk
theorem k2_ok {t1 t2 : T} {R : Type} {F : t1.D → t2.D → Option R} {rv : R → V} (h : ∀ a b r, F a b = some r → CallPure P f [.d t1 a, .d t2 b] (rv r)) (hk : k2 t1 t2 F rv vs = some q) : CallPure P f vs q := by
 unfold k2 at hk
 split at hk
 ·obtain ⟨a, ha, hk⟩ := bind_some' hk
  obtain ⟨rfl, rfl⟩ := T.cast_some ha
  obtain ⟨b, hb, hk⟩ := bind_some' hk
  obtain ⟨rfl, rfl⟩ := T.cast_some hb
  obtain ⟨r, hr, rfl⟩ := map_some' hk
  exact h _ _ r hr
 ·cases hk
theorem k4_ok {t1 t2 t3 t4 : T} {R : Type} {F : t1.D → t2.D → t3.D → t4.D → Option R} {rv : R → V} (h : ∀ a b c d r, F a b c d = some r → CallPure P f [.d t1 a, .d t2 b, .d t3 c, .d t4 d] (rv r)) (hk : k4 t1 t2 t3 t4 F rv vs = some q) : CallPure P f vs q := by
 unfold k4 at hk
 split at hk
 ·obtain ⟨a, ha, hk⟩ := bind_some' hk
  obtain ⟨rfl, rfl⟩ := T.cast_some ha
  obtain ⟨b, hb, hk⟩ := bind_some' hk
  obtain ⟨rfl, rfl⟩ := T.cast_some hb
  obtain ⟨c, hc, hk⟩ := bind_some' hk
  obtain ⟨rfl, rfl⟩ := T.cast_some hc
  obtain ⟨d, hd, hk⟩ := bind_some' hk
  obtain ⟨rfl, rfl⟩ := T.cast_some hd
  obtain ⟨r, hr, rfl⟩ := map_some' hk
  exact h _ _ _ _ r hr
 ·cases hk
end
def tabS : List (ByteArray × V) → ByteArray → Option V
 | [], _ => none
 | (s, v) :: r, t => bif s.data.toList == t.data.toList then some v else tabS r t
theorem tabS_mem : ∀ {l : List (ByteArray × V)} {t : ByteArray} {v : V}, tabS l t = some v → (t, v) ∈ l := by
 intro l
 induction l with
 | nil => intro t v h; cases h
 | cons p l ih =>
   intro t v h
   obtain ⟨s, u⟩ := p
   rw [tabS] at h
   cases hb : (s.data.toList == t.data.toList) with
   | true =>
     rw [hb] at h
     obtain rfl := Option.some.inj h
     have e : s.data.toList = t.data.toList := by simpa using hb
     have e1 : s.data = t.data := Array.ext' e
     have e2 : s = t := by cases s; cases t; simp only at e1; rw [e1]
     rw [e2]; simp
   | false =>
     rw [hb] at h
     exact List.mem_cons_of_mem _ (ih h)
def kS (l : List (ByteArray × V)) : List V → Option V
 | [.d u x] => (T.cast .str x).bind fun s => tabS l s
 | _ => none
def TabOk (P : Program) (f : FuncId) : List (ByteArray × V) → Prop
 | [] => True
 | (s, v) :: r => CallPure P f [.d .str s] v ∧ TabOk P f r
theorem TabOk.mem {P : Program} {f : FuncId} : ∀ {l : List (ByteArray × V)}, TabOk P f l → ∀ p ∈ l, CallPure P f [.d .str p.1] p.2 := by
 intro l
 induction l with
 | nil => intro _ p h; cases h
 | cons x l ih =>
   intro h p hp
   obtain ⟨s, v⟩ := x
   rcases List.mem_cons.1 hp with rfl | hp
   ·exact h.1
   ·exact ih h.2 p hp
theorem kS_ok {P : Program} {f : FuncId} {l : List (ByteArray × V)} (h : TabOk P f l) {vs : List V} {q : V} (hk : kS l vs = some q) : CallPure P f vs q := by
 unfold kS at hk
 split at hk
 ·obtain ⟨s, hs, hk⟩ := bind_some' hk
  obtain ⟨rfl, rfl⟩ := T.cast_some hs
  exact h.mem _ (tabS_mem hk)
 ·cases hk
end Go.Sw
