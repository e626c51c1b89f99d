/- The canonical evaluator: one operation, regions in order and drawn: part 2 of 3. -/
import Derived.Test.YtgamdeboonigeaaGreatDoorEvA
set_option linter.unusedVariables false
set_option linter.unusedSectionVars false
set_option linter.unusedSimpArgs false
set_option linter.constructorNameAsVariable false
noncomputable section
/- comparisons, len, methods, calls resolved. -/
namespace Go.Ev

section
variable {P : Program} {β : Ren} {C C' : CS} {w : World}

theorem sim_ceqIn {d : Nat} {t : TypeId} {x x' y y' : Value} {r : Bool} (hx : VRel β x x') (hy : VRel β y y') (hc : ceq P t x y = some r) : (Op.equalIn (d + 1) t x' y').run P w = .ok r w := by
  unfold ceq at hc
  split at hc
  · rename_i e hu
    split at hc
    · -- nil on the left
      cases hx with
      | ptrNil =>
      simp only [Option.some.injEq] at hc; subst hc
      cases hy <;> simp [Op.equalIn, run_underlying hu]
    · cases hx with
      | ptr hb =>
      cases hy with
      | ptrNil =>
      simp only [Option.some.injEq] at hc; subst hc
      simp [Op.equalIn, run_underlying hu]
    · rename_i a o b q
      cases hx with
      | ptr hb =>
      cases hy with
      | ptr hb' =>
      split at hc
      · rename_i n hs
        split at hc
        · rename_i hab
          simp only [Option.some.injEq] at hc; subst hc
          subst hab
          rw [hb] at hb'; cases hb'
          simp only [Op.equalIn, Sem.run_bind, run_underlying hu, Result.andThen_ok, run_size hs]
          rw [if_pos (by omega)]
          simp only [sameAddr, beq_self_eq_true, if_true, Sem.run_pure]
          congr 1
          rw [Bool.eq_iff_iff]; simp
        · cases hc
      · cases hc
    · cases hc
  · rename_i ms hu
    split at hc
    · cases hx; cases hy
      simp only [Option.some.injEq] at hc; subst hc
      simp [Op.equalIn, run_underlying hu]
    · cases hx; cases hy
      simp only [Option.some.injEq] at hc; subst hc
      simp [Op.equalIn, run_underlying hu]
    · cases hc
  · rename_i e hu
    split at hc
    · cases hx with
      | sliceNil =>
      simp only [Option.some.injEq] at hc; subst hc
      cases hy <;> simp [Op.equalIn, run_underlying hu]
    · cases hy with
      | sliceNil =>
      simp only [Option.some.injEq] at hc; subst hc
      cases hx <;> simp [Op.equalIn, run_underlying hu]
    · cases hc
  · rename_i k e hu
    split at hc
    · cases hx with
      | mapNil =>
      simp only [Option.some.injEq] at hc; subst hc
      cases hy <;> simp [Op.equalIn, run_underlying hu]
    · cases hx with
      | map hb =>
      cases hy with
      | mapNil =>
      simp only [Option.some.injEq] at hc; subst hc
      simp [Op.equalIn, run_underlying hu]
    · cases hc
  · rename_i a b c hu
    split at hc
    · cases hx; cases hy
      simp only [Option.some.injEq] at hc; subst hc
      simp [Op.equalIn, run_underlying hu]
    · cases hx; cases hy
      simp only [Option.some.injEq] at hc; subst hc
      simp [Op.equalIn, run_underlying hu]
    · cases hc
  · cases hc

theorem sim_ceq {t : TypeId} {x x' y y' : Value} {r : Bool} (hx : VRel β x x') (hy : VRel β y y') (hc : ceq P t x y = some r) : (Op.equal t x' y').run P w = .ok r w :=
  sim_ceqIn (d := 9999) hx hy hc

/-- the model's own code on values without an address, asking nothing of the world -/
def pureF (P : Program) (s : Sem Value) : Option Value :=
  match pureP P s with
  | some v => if free v = true then some v else none
  | none => none

theorem pureF_run {s : Sem Value} {v : Value} (hc : pureF P s = some v) (β : Ren) (w : World) : s.run P w = .ok v w ∧ VRel β v v := by
  unfold pureF at hc
  split at hc
  · rename_i u hu
    split at hc
    · rename_i hf
      simp only [Option.some.injEq] at hc; subst hc
      exact ⟨pureP_run hu w, .of_closed hf⟩
    · cases hc
  · cases hc

/-- == and != -/
def cbin (P : Program) (op : BinOp) (t : TypeId) (ox oy : Operand) (x y : Value) : Option Value :=
  if free x = true ∧ free y = true then pureF P (do eqGuard op t ox oy x y; binOp op t x y)
  else match op with
    | .eql => (ceq P t x y).map .bool
    | .neq => (ceq P t x y).map fun b => .bool (!b)
    | _ => none

theorem ceq_shape {t : TypeId} {x x' y y' : Value} {r : Bool} (hx : VRel β x x') (hy : VRel β y y') (hc : ceq P t x y = some r) (op : BinOp) (ox oy : Operand) :
    (eqGuard op t ox oy x' y').run P w = .ok () w ∧ binOp .eql t x' y' = (do pure (.bool (← Op.equal t x' y'))) ∧ binOp .neq t x' y' = (do pure (.bool (!(← Op.equal t x' y')))) := by
  unfold ceq at hc
  split at hc
  · split at hc
    · cases hx; cases hy <;> exact ⟨by unfold eqGuard; dsimp only; split <;> rfl, rfl, rfl⟩
    · cases hx; cases hy; exact ⟨by unfold eqGuard; dsimp only; split <;> rfl, rfl, rfl⟩
    · cases hx; cases hy; exact ⟨by unfold eqGuard; dsimp only; split <;> rfl, rfl, rfl⟩
    · cases hc
  · split at hc
    · cases hx; cases hy; exact ⟨by unfold eqGuard; dsimp only; split <;> rfl, rfl, rfl⟩
    · cases hx; cases hy; exact ⟨by unfold eqGuard; dsimp only; split <;> rfl, rfl, rfl⟩
    · cases hc
  · split at hc
    · cases hx; cases hy <;> exact ⟨by unfold eqGuard; dsimp only; split <;> rfl, rfl, rfl⟩
    · cases hx <;> cases hy <;> exact ⟨by unfold eqGuard; dsimp only; split <;> rfl, rfl, rfl⟩
    · cases hc
  · split at hc
    · cases hx; cases hy <;> exact ⟨by unfold eqGuard; dsimp only; split <;> rfl, rfl, rfl⟩
    · cases hx; cases hy; exact ⟨by unfold eqGuard; dsimp only; split <;> rfl, rfl, rfl⟩
    · cases hc
  · split at hc
    · cases hx; cases hy; exact ⟨by unfold eqGuard; dsimp only; split <;> rfl, rfl, rfl⟩
    · cases hx; cases hy; exact ⟨by unfold eqGuard; dsimp only; split <;> rfl, rfl, rfl⟩
    · cases hc
  · cases hc

theorem sim_bin {op : BinOp} {t : TypeId} {ox oy : Operand} {x x' y y' v : Value} (hx : VRel β x x') (hy : VRel β y y') (hc : cbin P op t ox oy x y = some v) :
    ∃ v', (do eqGuard op t ox oy x' y'; binOp op t x' y' : Sem Value).run P w = .ok v' w ∧ VRel β v v' := by
  unfold cbin at hc
  split at hc
  · rename_i hf
    rw [hx.free_eq hf.1, hy.free_eq hf.2]
    exact ⟨v, pureF_run hc β w⟩
  · split at hc
    · cases hq : ceq P t x y with
      | none => simp [hq] at hc
      | some r =>
        simp only [hq, Option.map_some, Option.some.injEq] at hc; subst hc
        obtain ⟨h1, h2, _⟩ := ceq_shape (w := w) hx hy hq .eql ox oy
        exact ⟨_, by simp only [Sem.run_bind, h1, Result.andThen_ok, h2, sim_ceq hx hy hq, Sem.run_pure], .bool _⟩
    · cases hq : ceq P t x y with
      | none => simp [hq] at hc
      | some r =>
        simp only [hq, Option.map_some, Option.some.injEq] at hc; subst hc
        obtain ⟨h1, _, h2⟩ := ceq_shape (w := w) hx hy hq .neq ox oy
        exact ⟨_, by simp only [Sem.run_bind, h1, Result.andThen_ok, h2, sim_ceq hx hy hq, Sem.run_pure], .bool _⟩
    · cases hc

/-! ## len, typeAssert, extract, interfaces -/
def clenB (P : Program) (C : CS) (T : Array TypeId) (x : Value) : Option Value :=
  match T[0]? with
  | some t =>
    match P.underlying t, x with
    | some .string, .string s => some (goInt s.size)
    | some (.slice _), .slice _ n _ => some (goInt n)
    | some (.array n _), _ => some (goInt n)
    | some (.map _ _), _ => (C.mp x).map fun es => goInt es.length
    | _, _ => none
  | none => none

theorem sim_lenB {T : Array TypeId} {type : TypeId} {x x' v : Value} (h : WRel β C w) (hx : VRel β x x') (hc : clenB P C T x = some v) :
    ∃ v', (Builtin.len_ T type #[x']).run P w = .ok v' w ∧ VRel β v v' := by
  unfold clenB at hc
  have e0 : (#[x'] : Array Value)[0]? = some x' := rfl
  split at hc
  · rename_i t hT
    split at hc
    · rename_i s hu
      cases hx
      simp only [Option.some.injEq] at hc; subst hc
      exact ⟨_, by simp only [Builtin.len_, hT, e0, Sem.run_bind, run_underlying hu, Result.andThen_ok, Sem.run_pure, goInt], .int _ _⟩
    · rename_i e a n c hu
      simp only [Option.some.injEq] at hc; subst hc
      cases hx <;> exact ⟨_, by simp only [Builtin.len_, hT, e0, Sem.run_bind, run_underlying hu, Result.andThen_ok, Sem.run_pure, goInt], .int _ _⟩
    · rename_i n e hu
      simp only [Option.some.injEq] at hc; subst hc
      exact ⟨_, by simp only [Builtin.len_, hT, e0, Sem.run_bind, run_underlying hu, Result.andThen_ok, Sem.run_pure, goInt], .int _ _⟩
    · rename_i k e hu
      simp only [Option.map_eq_some_iff] at hc
      obtain ⟨es, hm, rfl⟩ := hc
      rcases sim_mp h hx hm with ⟨rfl, rfl⟩ | ⟨b, i, aes, ck, _, _, _, rfl, hh, h1, _⟩
      · exact ⟨_, by simp only [Builtin.len_, hT, e0, Sem.run_bind, run_underlying hu, Result.andThen_ok, Sem.run_pure, goInt]; rfl, .int _ _⟩
      · have hl := h1.length
        simp only [List.length_map, Array.length_toList] at hl
        refine ⟨goInt aes.size, by simp only [Builtin.len_, hT, e0, Sem.run_bind, run_underlying hu, Result.andThen_ok, run_getObj_map hh, Sem.run_pure], ?_⟩
        rw [hl]; exact .int _ _
    · cases hc
  · cases hc

def cassert (P : Program) (x : Value) (asserted : TypeId) (ok : Bool) : Option Value :=
  match P.underlying asserted, x with
  | some (.interface _), _ => none
  | some _, .nilIface => if ok then (zero? P asserted).bind fun z => if closedV z = true then some (.tuple #[z, .bool false]) else none else none
  | some _, .iface t v => if t = asserted then some (if ok then .tuple #[v, .bool true] else v)
      else if ok then (zero? P asserted).bind fun z => if closedV z = true then some (.tuple #[z, .bool false]) else none else none
  | _, _ => none

theorem sim_assert {x x' v : Value} {xt asserted : TypeId} {ok : Bool} (hx : VRel β x x') (hc : cassert P x asserted ok = some v) :
    ∃ v', (Instr.typeAssert x' xt asserted ok).run P w = .ok v' w ∧ VRel β v v' := by
  unfold cassert at hc
  split at hc
  · cases hc
  · rename_i d hni hu
    cases hx
    split at hc
    · rename_i hok
      subst hok
      simp only [Option.bind_eq_some_iff] at hc
      obtain ⟨z, hz, hc⟩ := hc
      split at hc
      · rename_i hcl
        simp only [Option.some.injEq] at hc; subst hc
        refine ⟨.tuple #[z, .bool false], ?_, .tuple (.cons (.of_closed hcl) (.cons (.bool _) .nil))⟩
        cases d <;> first | exact absurd rfl (hni _) | simp [Instr.typeAssert, run_underlying hu, run_zero hz]
      · cases hc
    · cases hc
  · rename_i d t u hni hu
    cases hx with
    | iface _ hv =>
    split at hc
    · rename_i ht
      subst ht
      simp only [Option.some.injEq] at hc; subst hc
      cases ok with
      | true =>
        refine ⟨_, ?_, .tuple (.cons hv (.cons (.bool _) .nil))⟩
        cases d <;> first | exact absurd rfl (hni _) | simp [Instr.typeAssert, run_underlying hu]
      | false =>
        refine ⟨_, ?_, hv⟩
        cases d <;> first | exact absurd rfl (hni _) | simp [Instr.typeAssert, run_underlying hu]
    · rename_i ht
      split at hc
      · rename_i hok
        subst hok
        simp only [Option.bind_eq_some_iff] at hc
        obtain ⟨z, hz, hc⟩ := hc
        split at hc
        · rename_i hcl
          simp only [Option.some.injEq] at hc; subst hc
          refine ⟨.tuple #[z, .bool false], ?_, .tuple (.cons (.of_closed hcl) (.cons (.bool _) .nil))⟩
          cases d <;> first | exact absurd rfl (hni _) | simp [Instr.typeAssert, run_underlying hu, run_zero hz, ht]
        · cases hc
      · cases hc
  · cases hc

def cextract (x : Value) (i : Nat) : Option Value :=
  match x with
  | .tuple vs => vs[i]?
  | _ => none

theorem sim_extract {x x' v : Value} {i : Nat} (hx : VRel β x x') (hc : cextract x i = some v) : ∃ v', (Instr.extract x' i).run P w = .ok v' w ∧ VRel β v v' := by
  unfold cextract at hc
  split at hc
  · cases hx with
    | tuple hs =>
    rename_i vs ys
    obtain ⟨v', h1, h2⟩ := hs.get (i := i) (v := v) (by simpa using hc)
    have h3 : ys[i]? = some v' := by simpa using h1
    exact ⟨v', by simp [Instr.extract, h3], h2⟩
  · cases hc

end
end Go.Ev

/- one operation, canonical, and its simulation. -/
namespace Go.Ev

inductive CRes where
  | val (v : Value)
  | skip
  | dfr (f : FuncId) (args captured : Array Value)
  | ent (f : FuncId) (args : Array Value)
  | pnc (v : Value)
  | rcv

def okOpd : Operand → Bool
  | .const v => closedV v
  | .global _ => false
  | _ => true

def cvs (r : Option Value) (C : CS) : Option (CRes × CS) := r.map fun v => (.val v, C)
def cvc (r : Option (Value × CS)) : Option (CRes × CS) := r.map fun p => (.val p.1, p.2)

/-- no function with a body is called as the one that the model answers by itself -/
class Clean (P : Program) : Prop where
  named : ∀ (f : FuncId) (fn : Func), P.funcs[f]? = some fn → fn.body.isNone = false → ¬ (fn.name == "runtime.NumGoroutine") = true

def center (P : Program) (g : FuncId) (args : Array Value) (C : CS) : Option (CRes × CS) :=
  match P.funcs[g]? with
  | some fn =>
    if fn.body.isNone then
      if fn.name == "runtime.NumGoroutine" then none else
      match Extern.findNext fn, Extern.find fn with
      | none, some e => if args.toList.all free = true then cvs (pureF P (e args)) C else none
      | _, _ => none
    else some (.ent g args, C)
  | none => none

def cmethod (P : Program) (t : TypeId) (name : String) : Option FuncId :=
  match P.info? t with
  | some i =>
    match i.methods.find? (·.name == name) with
    | some m =>
      match m.path.toList, m.func, P.underlying t with
      | _, _, some (.pointer _) => none
      | [], some (f, false), some _ => some f
      | _, _, _ => none
    | none => none
  | none => none

def cclear (P : Program) (C : CS) (T : Array TypeId) (x : Value) : Option CS :=
  match T[0]? with
  | some t =>
    match P.underlying t, x with
    | some (.slice _), .slice none _ _ => some C
    | some (.slice _), .slice (some _) 0 _ => some C
    | some (.slice e), .slice (some ⟨b, o, none⟩) (n + 1) _ => (zero? P e).bind fun z => if closedV z = true then C.wr b o (Builtin.zeroCells z.cells (n + 1)).toList else none
    | some (.map _ _), .map none => some C
    | some (.map _ _), .map (some b) => match C.get b with
      | some (.map _) => if b < bnd then some (C.put b (.map [])) else none
      | _ => none
    | _, _ => none
  | none => none

/-- a capacity that is known -/
def ccapB (P : Program) (T : Array TypeId) (x : Value) : Option Value :=
  match T[0]? with
  | some t =>
    match P.underlying t, x with
    | some (.slice _), .slice none 0 0 => some (goInt 0)
    | some (.slice _), .slice (some ⟨_, _, none⟩) _ c => if c < unk then some (goInt c) else none
    | _, _ => none
  | none => none

def cbuiltin (P : Program) (b : Builtin) (T : Array TypeId) (type : TypeId) (args : List Value) (C : CS) : Option (CRes × CS) :=
  match b, args with
  | .append, [s, x] => cvc (cappend P C T s x)
  | .len, [x] => cvs (clenB P C T x) C
  | .cap, [x] => cvs (ccapB P T x) C
  | .copy, [d, s] => cvc (ccopy P C T d s)
  | .delete, [m, k] => (cdelete P C T m k).map fun D => (.val (.tuple #[]), D)
  | .clear, [x] => (cclear P C T x).map fun D => (.val (.tuple #[]), D)
  | .max, l => if l.all free = true then cvs (pureF P (Builtin.max_ T type l.toArray)) C else none
  | .min, l => if l.all free = true then cvs (pureF P (Builtin.min_ T type l.toArray)) C else none
  | .recover, [] => some (.rcv, C)
  | _, _ => none

def cconv (P : Program) (C : CS) (src dst : TypeId) (x : Value) : Option (CRes × CS) :=
  match P.underlying src, P.underlying dst, x with
  | some .string, some (.slice e), .string s =>
    match P.underlying e with
    | some (.int .u8) => cvc (cstrToBytes C s)
    | _ => none
  | some (.slice e), some .string, x =>
    match P.underlying e with
    | some (.int .u8) => cvs (cbytesToStr C x) C
    | _ => none
  | _, _, _ => if free x = true then cvs (pureF P (convert src dst x)) C else none

/-- a slice expression -/
def cslice (P : Program) (C : CS) (t : TypeId) (x : Value) (lo hi mx : Option Value) : Option Value :=
  match P.underlying t with
  | some (.slice e) =>
    match size? P e with
    | some size =>
      match x with
      | .slice (some ⟨b, _, none⟩) _ cap =>
        if cap = unk then
          match C.get b with
          | some (.cells _ es _) => if es = size ∧ es ≠ 0 then csliceSl size x lo hi mx else none
          | _ => none
        else csliceSl size x lo hi mx
      | _ => csliceSl size x lo hi mx
    | none => none
  | some (.array n e) =>
    match size? P e, x, cbounds n n lo hi mx with
    | some size, .pointer (some ⟨b, o, none⟩), some (l, h, m) => if n < unk then some (.slice (some (if m = l then ⟨b, o, none⟩ else ⟨b, o + l * size, none⟩)) (h - l) (m - l)) else none
    | _, _, _ => none
  | some .string =>
    if free x = true ∧ lo.toList.all free = true ∧ hi.toList.all free = true ∧ mx.isNone = true then pureF P (Instr.sliceAt t x lo hi mx) else none
  | _ => none

def ccall (P : Program) (c : Call) (type : TypeId) (ρ : Operand → Value) (C : CS) : Option (CRes × CS) :=
  match c.callee with
  | .builtin b => cbuiltin P b c.argTypes type (c.args.map ρ).toList C
  | .value f =>
    match ρ f with
    | .func (.func g) first captured => center P g (first ++ c.args.map ρ ++ captured) C
    | _ => none
  | .invoke r name =>
    match ρ r with
    | .iface t v => match cmethod P t name with
      | some f => center P f (#[v] ++ c.args.map ρ) C
      | none => none
    | _ => none

def cop (P : Program) (o : Oper) (ρ : Operand → Value) (C : CS) : Option (CRes × CS) :=
  match o.op with
  | .move x | .assign x => some (.val (ρ x), C)
  | .pick c a b => match ρ c with
    | .bool t => some (.val (if t then ρ a else ρ b), C)
    | _ => none
  | .alloc e => (zero? P e).bind fun z => if closedV z = true then cvc (cbox C z.cells.toList) else none
  | .box _ x => cvc (cbox C (ρ x).cells.toList)
  | .build t parts => if (zero? P t).any closedV = true then cvs (pureP P (Instr.build t (parts.map fun (i, x) => (i, ρ x)))) C else none
  | .buildSlice t len parts => if len < unk then cvc (cbuildSlice P C t len (parts.toList.map fun (i, x) => (i, ρ x))) else none
  | .load t a => cvs (cload P C t (ρ a)) C
  | .store t a x => (cstore P C t (ρ a) (ρ x)).map fun D => (.skip, D)
  | .nilCheck x => match ρ x with
    | .pointer (some _) | .iface _ _ | .func (.func _) _ _ => some (.val (ρ x), C)
    | _ => none
  | .binOp op t x y _ => cvs (cbin P op t x y (ρ x) (ρ y)) C
  | .unOp op _ x => if free (ρ x) = true then cvs (pureF P (Op.unary op (ρ x))) C else none
  | .convert src dst x => cconv P C src dst (ρ x)
  | .makeInterface t x => match P.underlying t with
    | some (.interface _) | none => none
    | _ => some (.val (.iface t (ρ x)), C)
  | .makeFunc (.func f) first captured => some (.val (.func (.func f) (first.map ρ) (captured.map ρ)), C)
  | .makeMap _ none => (C.new (.map [])).map fun (n, D) => (.val (.map (some n)), D)
  | .makeSlice t l c => cvc (cmakeSlice P C t (ρ l) (ρ c))
  | .slice t x lo hi mx => cvs (cslice P C t (ρ x) (lo.map ρ) (hi.map ρ) (mx.map ρ)) C
  | .fieldAddr s x f => cvs (cfieldAt P s (ρ x) f) C
  | .field t x f => cvs (pureP P (Instr.field t (ρ x) f)) C
  | .indexAddr t x i => cvs (cindexAt P t (ρ x) (ρ i)) C
  | .index t x i => match ρ x with
    | .agg cs => cvs (pureP P (Instr.index t (.agg cs) (ρ i))) C
    | _ => if free (ρ x) = true ∧ free (ρ i) = true then cvs (pureF P (Instr.index t (ρ x) (ρ i))) C else none
  | .lookup t x i ok => cvs (clookup P C t (ρ x) (ρ i) ok) C
  | .mapUpdate t m k x => (cmapSet P C t (ρ m) (ρ k) (ρ x)).map fun D => (.skip, D)
  | .typeAssert x _ a ok => cvs (cassert P (ρ x) a ok) C
  | .extract t i => cvs (cextract (ρ t) i) C
  | .call c => ccall P c o.type ρ C
  | .defer c => match c.callee with
    | .value f => match ρ f with
      | .func (.func g) first captured => some (.dfr g (first ++ c.args.map ρ) captured, C)
      | _ => none
    | _ => none
  | .panic x => match ρ x with
    | .iface t v => some (.pnc (.iface t v), C)
    | _ => none
  | _ => none

end Go.Ev

/- one operation: the simulation. -/
namespace Go.Ev

section
variable {P : Program} [Clean P] {β : Ren} {C C' : CS} {w : World}

inductive NRel (β : Ren) : CRes → Next → Prop
  | val {v v' : Value} (h : VRel β v v') : NRel β (.val v) (.value v')
  | skip : NRel β .skip .skip
  | dfr (f : FuncId) {a a' c c' : Array Value} (h : VsRel β a.toList a'.toList) (h' : VsRel β c.toList c'.toList) : NRel β (.dfr f a c) (.defer { target := .fn (.func f) c', args := a' })
  | ent (f : FuncId) {a a' : Array Value} (h : VsRel β a.toList a'.toList) : NRel β (.ent f a) (.enter f a')
  | rcv : NRel β .rcv .recover

/-- what an operation comes to, canonical against model -/
def OpSim (β : Ren) (C : CS) (w : World) (r : CRes) (C' : CS) : Result Next → Prop
  | .ok n w' => ∃ β', Ext β C w β' C' w' ∧ NRel β' r n
  | .halt (.panic v') w' => w' = w ∧ C' = C ∧ ∃ v, r = .pnc v ∧ VRel β v v'
  | _ => False

theorem OpSim.of_val {s : Sem Value} {r : Option Value} {cr : CRes} (h : WRel β C w) (hc : cvs r C = some (cr, C')) (hs : ∀ v, r = some v → ∃ v', s.run P w = .ok v' w ∧ VRel β v v') :
    OpSim β C w cr C' ((do pure (.value (← s)) : Sem Next).run P w) := by
  unfold cvs at hc
  cases r with
  | none => cases hc
  | some v =>
    simp only [Option.map_some, Option.some.injEq, Prod.mk.injEq] at hc
    obtain ⟨rfl, rfl⟩ := hc
    obtain ⟨v', h1, h2⟩ := hs v rfl
    simp only [Sem.run_bind, h1, Result.andThen_ok, Sem.run_pure]
    exact ⟨β, .refl h, .val h2⟩

theorem OpSim.of_valc {s : Sem Value} {r : Option (Value × CS)} {cr : CRes} (hc : cvc r = some (cr, C')) (hs : ∀ v D, r = some (v, D) → ∃ β' v' w', s.run P w = .ok v' w' ∧ Ext β C w β' D w' ∧ VRel β' v v') :
    OpSim β C w cr C' ((do pure (.value (← s)) : Sem Next).run P w) := by
  unfold cvc at hc
  cases r with
  | none => cases hc
  | some p =>
    simp only [Option.map_some, Option.some.injEq, Prod.mk.injEq] at hc
    obtain ⟨rfl, rfl⟩ := hc
    obtain ⟨β', v', w', h1, h2, h3⟩ := hs p.1 p.2 rfl
    simp only [Sem.run_bind, h1, Result.andThen_ok, Sem.run_pure]
    exact ⟨β', h2, .val h3⟩

theorem OpSim.of_unit {s : Sem Unit} (hs : ∃ w', s.run P w = .ok () w' ∧ Ext β C w β C' w') :
    OpSim β C w .skip C' ((do s; pure .skip : Sem Next).run P w) := by
  obtain ⟨w', h1, h2⟩ := hs
  simp only [Sem.run_bind, h1, Result.andThen_ok, Sem.run_pure]
  exact ⟨β, h2, .skip⟩

theorem VsRel.map {xs : Array Operand} {ρ ρ' : Operand → Value} (h : ∀ x ∈ xs, VRel β (ρ x) (ρ' x)) : VsRel β (xs.map ρ).toList (xs.map ρ').toList := by
  have key : ∀ l : List Operand, (∀ x ∈ l, VRel β (ρ x) (ρ' x)) → VsRel β (l.map ρ) (l.map ρ') := by
    intro l
    induction l with
    | nil => intro _; exact .nil
    | cons x xs ih => intro hl; exact .cons (hl x (by simp)) (ih fun y hy => hl y (by simp [hy]))
  simp only [Array.toList_map]
  exact key _ fun x hx => h x (by simpa using hx)

theorem PsRel.map {ρ ρ' : Operand → Value} : ∀ {l : List (Nat × Operand)}, (∀ p ∈ l, VRel β (ρ p.2) (ρ' p.2)) → PsRel β (l.map fun (i, x) => (i, ρ x)) (l.map fun (i, x) => (i, ρ' x))
  | [], _ => .nil
  | (i, x) :: l, h => .cons (h (i, x) (by simp)) (PsRel.map fun p hp => h p (by simp [hp]))

theorem VsRel.frees_eq : ∀ {l m : List Value}, VsRel β l m → l.all free = true → m = l
  | _, _, .nil, _ => rfl
  | _, _, .cons h hs, hp => by
    simp only [List.all_cons, Bool.and_eq_true] at hp
    rw [h.free_eq hp.1, VsRel.frees_eq hs hp.2]

theorem sim_center {g : FuncId} {args args' : Array Value} {r : CRes} (h : WRel β C w) (ha : VsRel β args.toList args'.toList) (hc : center P g args C = some (r, C')) :
    OpSim β C w r C' ((callFunc g args').run P w) := by
  unfold center at hc
  split at hc
  · rename_i fn hf
    simp only [callFunc, Sem.run_bind, run_program, Result.andThen_ok, hf]
    split at hc
    · rename_i hb
      split at hc
      · cases hc
      · rename_i hname
        rw [if_neg hname, if_pos hb]
        split at hc
        · rename_i e hnx hfd
          split at hc
          · rename_i hall
            have hae : args' = args := Array.ext' (ha.frees_eq hall)
            subst hae
            simp only [hnx, hfd, Sem.run_bind, run_mark, Result.andThen_ok, Sem.run_pure]
            have := OpSim.of_val (P := P) (s := e args') h hc fun v hv => ⟨v, pureF_run hv β w⟩
            simpa only [Sem.run_bind, Sem.run_pure] using this
          · cases hc
        · cases hc
    · rename_i hb
      rw [if_neg (Clean.named g fn hf (Bool.eq_false_iff.2 hb)), if_neg hb]
      simp only [Option.some.injEq, Prod.mk.injEq] at hc
      obtain ⟨rfl, rfl⟩ := hc
      exact ⟨β, .refl h, .ent g ha⟩
  · cases hc

theorem sim_cmethod {t : TypeId} {v v' : Value} {name : String} {f : FuncId} (hc : cmethod P t name = some f) : (method (P.types.size + Made.depth) t v' name).run P w = .ok (f, v') w := by
  unfold cmethod at hc
  split at hc
  · rename_i i hi
    split at hc
    · rename_i m hm
      split at hc
      · cases hc
      · rename_i g d hnp hpath hfunc hu
        simp only [Option.some.injEq] at hc; subst hc
        obtain ⟨n, hn⟩ : ∃ n, P.types.size + Made.depth = n + 1 := ⟨P.types.size + Made.depth - 1, by have : 0 < Made.depth := (by decide); omega⟩
        rw [hn]
        simp only [method, Sem.run_bind, run_typeInfo_of hi, Result.andThen_ok, hm, hpath, follow, Sem.run_pure, hfunc]
        cases d <;> first | exact absurd rfl (hnp _) | simp [receiverAt, run_underlying hu, Place.get]
      · cases hc
    · cases hc
  · cases hc

theorem sim_clear {T : Array TypeId} {type : TypeId} {x x' : Value} (h : WRel β C w) (hx : VRel β x x') (hc : cclear P C T x = some C') :
    ∃ w', (Builtin.clear_ T type #[x']).run P w = .ok (.tuple #[]) w' ∧ Ext β C w β C' w' := by
  have e0 : (#[x'] : Array Value)[0]? = some x' := rfl
  unfold cclear at hc
  split at hc
  · rename_i t hT
    split at hc
    · rename_i e hu
      cases hx with
      | sliceNil =>
      simp only [Option.some.injEq] at hc; subst hc
      exact ⟨w, by simp only [Builtin.clear_, hT, e0, Sem.run_bind, run_underlying hu, Result.andThen_ok, Sem.run_pure], .refl h⟩
    · rename_i e hu
      simp only [Option.some.injEq] at hc; subst hc
      refine ⟨w, ?_, .refl h⟩
      cases hx <;> simp only [Builtin.clear_, hT, e0, Sem.run_bind, run_underlying hu, Result.andThen_ok, Sem.run_pure]
    · rename_i e b o n hu
      cases hx with
      | slice hb hl hcap =>
      simp only [Option.bind_eq_some_iff] at hc
      obtain ⟨z, hz, hc⟩ := hc
      split at hc
      · rename_i hcl
        obtain ⟨w', r1, r2⟩ := sim_wr h hb hc (zeroCells_rel hcl _) P
        exact ⟨w', by simp only [Builtin.clear_, hT, e0, Sem.run_bind, run_underlying hu, Result.andThen_ok, run_zero hz, r1, Sem.run_pure], r2⟩
      · cases hc
    · rename_i k e hu
      cases hx with
      | mapNil =>
      simp only [Option.some.injEq] at hc; subst hc
      exact ⟨w, by simp only [Builtin.clear_, hT, e0, Sem.run_bind, run_underlying hu, Result.andThen_ok, Sem.run_pure], .refl h⟩
    · rename_i k e b hu
      cases hx with
      | map hb =>
      split at hc
      · rename_i es hg
        split at hc
        · rename_i hbn
          simp only [Option.some.injEq] at hc; subst hc
          obtain ⟨aes, ck, hh, h1, h2, _⟩ := h.rel _ _ _ hb hg
          obtain ⟨r1, r2⟩ := sim_setMap (P := P) (aes' := #[]) (ck' := ck) (es' := []) h hb hbn hg hh (by simp; exact .nil) (by simp; exact .nil) (.empty _)
          exact ⟨_, by simp only [Builtin.clear_, hT, e0, Sem.run_bind, run_underlying hu, Result.andThen_ok, run_getObj_map hh, r1, Sem.run_pure], r2⟩
        · cases hc
      · cases hc
    · cases hc
  · cases hc

theorem sim_capB {T : Array TypeId} {type : TypeId} {x x' v : Value} (hx : VRel β x x') (hc : ccapB P T x = some v) :
    ∃ v', (Builtin.cap_ T type #[x']).run P w = .ok v' w ∧ VRel β v v' := by
  unfold ccapB at hc
  have e0 : (#[x'] : Array Value)[0]? = some x' := rfl
  split at hc
  · rename_i t hT
    split at hc
    · rename_i e hu
      simp only [Option.some.injEq] at hc; subst hc
      cases hx
      exact ⟨_, by simp only [Builtin.cap_, hT, e0, Sem.run_bind, run_underlying hu, Result.andThen_ok, Sem.run_pure, goInt]; rfl, .int _ _⟩
    · rename_i e b o n c hu
      split at hc
      · rename_i hlt
        simp only [Option.some.injEq] at hc; subst hc
        cases hx with
        | slice hb hl hcc =>
          rcases hcc with ⟨rfl, _⟩ | ⟨rfl, _⟩
          · exact ⟨_, by simp only [Builtin.cap_, hT, e0, Sem.run_bind, run_underlying hu, Result.andThen_ok, Sem.run_pure, goInt], .int _ _⟩
          · exact absurd hlt (Nat.lt_irrefl _)
      · cases hc
    · cases hc
  · cases hc

theorem sim_builtin {b : Builtin} {T : Array TypeId} {type : TypeId} {consts : Array Bool} {args args' : Array Value} {r : CRes} (h : WRel β C w) (ha : VsRel β args.toList args'.toList) (hc : cbuiltin P b T type args.toList C = some (r, C')) :
    OpSim β C w r C' ((builtin b T type consts args').run P w) := by
  have arr : ∀ {l : List Value}, args'.toList = l → args' = l.toArray := fun e => by rw [← e]
  unfold cbuiltin at hc
  split at hc
  · rename_i s x e
    rw [e] at ha
    generalize hl : args'.toList = l at ha
    rw [arr hl]
    cases ha with
    | cons hs ha => cases ha with
    | cons hx ha => cases ha with
    | nil => exact OpSim.of_valc hc fun v D hv => sim_append h hs hx hv
  · rename_i x e
    rw [e] at ha
    generalize hl : args'.toList = l at ha
    rw [arr hl]
    cases ha with
    | cons hx ha => cases ha with
    | nil => exact OpSim.of_val h hc fun v hv => sim_lenB h hx hv
  · rename_i x e
    rw [e] at ha
    generalize hl : args'.toList = l at ha
    rw [arr hl]
    cases ha with
    | cons hx ha => cases ha with
    | nil => exact OpSim.of_val h hc fun v hv => sim_capB hx hv
  · rename_i s x e
    rw [e] at ha
    generalize hl : args'.toList = l at ha
    rw [arr hl]
    cases ha with
    | cons hs ha => cases ha with
    | cons hx ha => cases ha with
    | nil => exact OpSim.of_valc hc fun v D hv => sim_copy h hs hx hv
  · rename_i m k e
    rw [e] at ha
    generalize hl : args'.toList = l at ha
    rw [arr hl]
    cases ha with
    | cons hm ha => cases ha with
    | cons hk ha => cases ha with
    | nil =>
      simp only [Option.map_eq_some_iff, Prod.mk.injEq] at hc
      obtain ⟨D, hd, rfl, rfl⟩ := hc
      obtain ⟨w', r1, r2⟩ := sim_delete (type := type) h hm hk hd
      refine OpSim.of_valc (r := some (.tuple #[], D)) rfl fun v D' e => ?_
      cases e
      exact ⟨β, _, w', r1, r2, .tuple .nil⟩
  · rename_i x e
    rw [e] at ha
    generalize hl : args'.toList = l at ha
    rw [arr hl]
    cases ha with
    | cons hx ha => cases ha with
    | nil =>
      simp only [Option.map_eq_some_iff, Prod.mk.injEq] at hc
      obtain ⟨D, hd, rfl, rfl⟩ := hc
      obtain ⟨w', r1, r2⟩ := sim_clear (type := type) h hx hd
      refine OpSim.of_valc (r := some (.tuple #[], D)) rfl fun v D' e => ?_
      cases e
      exact ⟨β, _, w', r1, r2, .tuple .nil⟩
  · split at hc
    · rename_i hall
      have hae : args' = args := Array.ext' (ha.frees_eq hall)
      subst hae
      exact OpSim.of_val h hc fun v hv => ⟨v, pureF_run hv β w⟩
    · cases hc
  · split at hc
    · rename_i hall
      have hae : args' = args := Array.ext' (ha.frees_eq hall)
      subst hae
      exact OpSim.of_val h hc fun v hv => ⟨v, pureF_run hv β w⟩
    · cases hc
  · rename_i e
    simp only [Option.some.injEq, Prod.mk.injEq] at hc
    obtain ⟨rfl, rfl⟩ := hc
    exact ⟨β, .refl h, .rcv⟩
  · cases hc

theorem sim_cconv {src dst : TypeId} {x x' : Value} {r : CRes} (h : WRel β C w) (hx : VRel β x x') (hc : cconv P C src dst x = some (r, C')) :
    OpSim β C w r C' ((do pure (.value (← convert src dst x')) : Sem Next).run P w) := by
  unfold cconv at hc
  split at hc
  · rename_i e s hs hd
    cases hx
    split at hc
    · rename_i he
      exact OpSim.of_valc hc fun v D hv => sim_strToBytes h hs hd he hv
    · cases hc
  · rename_i e y hs hd
    split at hc
    · rename_i he
      exact OpSim.of_val h hc fun v hv => sim_bytesToStr h hs he hd hx hv
    · cases hc
  · split at hc
    · rename_i hf
      rw [hx.free_eq hf]
      exact OpSim.of_val h hc fun v hv => ⟨v, pureF_run hv β w⟩
    · cases hc

theorem opt_rel {lo : Option Operand} {ρ ρ' : Operand → Value} (h : ∀ x, lo = some x → VRel β (ρ x) (ρ' x)) :
    (∀ v, lo.map ρ = some v → ∃ v', lo.map ρ' = some v' ∧ VRel β v v') ∧ (lo.map ρ = none → lo.map ρ' = none) := by
  cases lo with
  | none => exact ⟨fun v e => (by cases e), fun _ => rfl⟩
  | some x => exact ⟨fun v e => by cases e; exact ⟨_, rfl, h x rfl⟩, fun e => by cases e⟩

end
end Go.Ev

/- every operation: the simulation. -/
namespace Go.Ev

section
variable {P : Program} [Clean P] {β : Ren} {C C' : CS} {w : World}

theorem sim_slice {t : TypeId} {x x' v : Value} {low high max low' high' max' : Option Value} (h : WRel β C w) (hx : VRel β x x')
    (hl : (∀ v, low = some v → ∃ v', low' = some v' ∧ VRel β v v') ∧ (low = none → low' = none)) (hh : (∀ v, high = some v → ∃ v', high' = some v' ∧ VRel β v v') ∧ (high = none → high' = none))
    (hm : (∀ v, max = some v → ∃ v', max' = some v' ∧ VRel β v v') ∧ (max = none → max' = none)) (hc : cslice P C t x low high max = some v) :
    ∃ v', (Instr.sliceAt t x' low' high' max').run P w = .ok v' w ∧ VRel β v v' := by
  unfold cslice at hc
  split at hc
  · rename_i e hu
    split at hc
    · rename_i size hs
      split at hc
      · rename_i b o len cap
        split at hc
        · rename_i hcap
          split at hc
          · rename_i cs es fz hg
            split at hc
            · rename_i hes
              refine sim_sliceSl hu hs hx hl.1 hl.2 hh.1 hh.2 hm.1 hm.2 ?_ hc
              intro b' o' len' e' i hi
              simp only [Value.slice.injEq, Option.some.injEq, Addr.mk.injEq] at e'
              obtain ⟨⟨rfl, _⟩, _⟩ := e'
              obtain ⟨_, _, _, _, _, _, _, _, h5, _⟩ := h.rel _ _ _ hi hg
              rw [h5 hes.2, hes.1]
            · cases hc
          · cases hc
        · rename_i hcap
          refine sim_sliceSl hu hs hx hl.1 hl.2 hh.1 hh.2 hm.1 hm.2 ?_ hc
          intro b' o' len' e' i hi
          simp only [Value.slice.injEq] at e'
          exact absurd e'.2.2 hcap
      · rename_i hne
        refine sim_sliceSl hu hs hx hl.1 hl.2 hh.1 hh.2 hm.1 hm.2 ?_ hc
        intro b' o' len' e' i hi
        exact absurd e' (hne _ _ _ _)
    · cases hc
  · rename_i n e hu
    split at hc
    · rename_i size b o l hb m hs hbd
      split at hc
      · rename_i hn
        simp only [Option.some.injEq] at hc; subst hc
        obtain ⟨rfl, rfl, rfl⟩ := cbounds_eq hbd hl.1 hl.2 hh.1 hh.2 hm.1 hm.2
        cases hx with
        | ptr hbi =>
        rename_i i
        have hle := cbounds_le (fun _ => Nat.le_refl n) hbd
        have hcc : capOf n n = n := by unfold capOf; split <;> rfl
        rw [hcc] at hle
        have hr := run_sliceBounds (P := P) (isSlice := false) (cap' := n) (by rw [hcc]; exact Nat.le_refl _) hbd w
        have hm' : (if max'.isSome = true then m else n) = m := by
          split
          · rfl
          · rename_i e1
            exact (hle.2.2.2 (by simpa using e1)).symm
        rw [hm'] at hr
        refine ⟨.slice (some (if m = l then ⟨i.blk, o, none⟩ else (⟨i.blk, o, none⟩ : Addr).add (l * size))) (hb - l) (m - l), by simp only [Instr.sliceAt, Sem.run_bind, run_underlying hu, Result.andThen_ok, Instr.sureAddr, Sem.run_pure, hr, run_size hs], ?_⟩
        have hmn : hb ≤ m ∧ m ≤ n := by
          by_cases e1 : max'.isSome = true
          · exact hle.2.2.1 e1
          · have := hle.2.2.2 (by simpa using e1); omega
        split
        · exact .slice hbi (by omega) (.inl ⟨rfl, by omega⟩)
        · rw [addr_add]; exact .slice hbi (by omega) (.inl ⟨rfl, by omega⟩)
      · cases hc
    · cases hc
  · rename_i hu
    split at hc
    · rename_i hf
      obtain ⟨hf1, hf2, hf3, hf4⟩ := hf
      have eq1 : ∀ {lo lo' : Option Value}, lo.toList.all free = true → (∀ v, lo = some v → ∃ v', lo' = some v' ∧ VRel β v v') ∧ (lo = none → lo' = none) → lo' = lo := by
        intro lo lo' hfr hlo
        cases lo with
        | none => exact hlo.2 rfl
        | some v =>
          obtain ⟨v', e, hv⟩ := hlo.1 v rfl
          rw [e, hv.free_eq (by simpa using hfr)]
      have e3 : max' = max := by
        cases max with
        | none => exact hm.2 rfl
        | some v => simp at hf4
      rw [hx.free_eq hf1, eq1 hf2 hl, eq1 hf3 hh, e3]
      exact ⟨v, pureF_run hc β w⟩
    · cases hc
  · cases hc

theorem sim_ccall {c : Call} {type : TypeId} {ρ ρ' : Operand → Value} {r : CRes} (h : WRel β C w) (hρ : ∀ x ∈ c.operands, VRel β (ρ x) (ρ' x)) (hc : ccall P c type ρ C = some (r, C')) :
    OpSim β C w r C' ((do let d ← resolve ρ' c type; invoke d.target d.args).run P w) := by
  have hargs : VsRel β (c.args.map ρ).toList (c.args.map ρ').toList := VsRel.map fun x hx => hρ x (by simp [Call.operands, hx])
  unfold ccall at hc
  split at hc
  · rename_i b hb
    simp only [resolve, hb, Sem.run_bind, Sem.run_pure, Result.andThen_ok, invoke]
    exact sim_builtin h hargs hc
  · rename_i f hb
    have hf : VRel β (ρ f) (ρ' f) := hρ f (by simp [Call.operands, hb])
    split at hc
    · rename_i g first captured e
      rw [e] at hf
      generalize hf' : ρ' f = fv at hf
      cases hf with
      | func _ h1 h2 =>
      rename_i ys vs
      have hall : VsRel β (first ++ c.args.map ρ ++ captured).toList (ys ++ c.args.map ρ' ++ vs).toList := by
        simp only [Array.toList_append]; exact (h1.append hargs).append h2
      have := sim_center h hall hc
      simpa only [resolve, hb, hf', Deferred.ofValue, Sem.run_bind, Sem.run_pure, Result.andThen_ok, invoke] using this
    · cases hc
  · rename_i rv name hb
    have hr : VRel β (ρ rv) (ρ' rv) := hρ rv (by simp [Call.operands, hb])
    split at hc
    · rename_i t v e
      rw [e] at hr
      generalize hf' : ρ' rv = fv at hr
      cases hr with
      | iface _ hv =>
      rename_i v'
      split at hc
      · rename_i f hm
        have hall : VsRel β (#[v] ++ c.args.map ρ).toList (#[v'] ++ c.args.map ρ').toList := by
          simp only [Array.toList_append]; exact VsRel.append (.cons hv .nil) hargs
        have := sim_center h hall hc
        have e0 : (#[Value.iface t v'] ++ c.args.map ρ')[0]? = some (.iface t v') := by rw [Array.getElem?_append_left (by simp)]; rfl
        have e1 : (#[Value.iface t v'] ++ c.args.map ρ').extract 1 (#[Value.iface t v'] ++ c.args.map ρ').size = c.args.map ρ' := by
          apply Array.ext'
          simp
          rw [List.take_of_length_le (by simp)]
        simp only [resolve, hb, hf', Sem.run_bind, Sem.run_pure, Result.andThen_ok, invoke, e0, e1, callMethod, run_program, sim_cmethod (v := v) hm]
        exact this
      · cases hc
    · cases hc

theorem cop_sim {o : Oper} {ρ ρ' : Operand → Value} {r : CRes} (h : WRel β C w) (hρ : ∀ x ∈ o.op.operands, VRel β (ρ x) (ρ' x)) (hc : cop P o ρ C = some (r, C')) : OpSim β C w r C' ((execOp ρ' o).run P w) := by
  obtain ⟨dst, op, type, pos, after, guard⟩ := o
  dsimp only at hρ
  cases op with
  | move x =>
    simp only [cop, Option.some.injEq, Prod.mk.injEq] at hc
    obtain ⟨rfl, rfl⟩ := hc
    exact ⟨β, .refl h, .val (hρ x (by simp [Op.operands]))⟩
  | assign x =>
    simp only [cop, Option.some.injEq, Prod.mk.injEq] at hc
    obtain ⟨rfl, rfl⟩ := hc
    exact ⟨β, .refl h, .val (hρ x (by simp [Op.operands]))⟩
  | pick c a b =>
    have h1 := hρ c (by simp [Op.operands])
    have h2 := hρ a (by simp [Op.operands])
    have h3 := hρ b (by simp [Op.operands])
    simp only [cop] at hc
    split at hc
    · rename_i t e
      rw [e] at h1
      generalize hf' : ρ' c = fv at h1
      cases h1
      simp only [Option.some.injEq, Prod.mk.injEq] at hc
      obtain ⟨rfl, rfl⟩ := hc
      simp only [execOp, hf', asBool, Sem.run_bind, Sem.run_pure, Result.andThen_ok]
      refine ⟨β, .refl h, .val ?_⟩
      cases t
      · exact h3
      · exact h2
    · cases hc
  | alloc e =>
    simp only [cop, Option.bind_eq_some_iff] at hc
    obtain ⟨z, hz, hc⟩ := hc
    split at hc
    · rename_i hcl
      exact OpSim.of_valc hc fun v D hv => sim_alloc h hz hcl hv
    · cases hc
  | box e x => exact OpSim.of_valc hc fun v D hv => sim_box e h (hρ x (by simp [Op.operands])) hv
  | build t parts =>
    simp only [cop] at hc
    split at hc
    · rename_i hz
      refine OpSim.of_val h hc fun v hv => ?_
      have hp : PsRel β (parts.map fun (i, x) => (i, ρ x)).toList (parts.map fun (i, x) => (i, ρ' x)).toList := by
        simp only [Array.toList_map]
        exact PsRel.map fun p hp => hρ p.2 (by simp only [Op.operands, List.mem_toArray, List.mem_map]; exact ⟨p, hp, rfl⟩)
      obtain ⟨v', h1, h2⟩ := sim_build hp hz hv
      exact ⟨v', pureP_run h1 w, h2⟩
    · cases hc
  | buildSlice t len parts =>
    simp only [cop] at hc
    split at hc
    · rename_i hlen
      refine OpSim.of_valc hc fun v D hv => ?_
      have hp : PsRel β (parts.toList.map fun (i, x) => (i, ρ x)) (parts.map fun (i, x) => (i, ρ' x)).toList := by
        rw [Array.toList_map]
        exact PsRel.map fun p hp => hρ p.2 (by simp only [Op.operands, List.mem_toArray, List.mem_map]; exact ⟨p, hp, rfl⟩)
      have := sim_buildSlice h hp hlen hv
      rwa [Array.toArray_toList] at this
    · cases hc
  | load t a => exact OpSim.of_val h hc fun v hv => sim_load h (hρ a (by simp [Op.operands])) hv
  | store t a x =>
    simp only [cop, Option.map_eq_some_iff, Prod.mk.injEq] at hc
    obtain ⟨D, hd, rfl, rfl⟩ := hc
    exact OpSim.of_unit (sim_store h (hρ a (by simp [Op.operands])) (hρ x (by simp [Op.operands])) hd)
  | nilCheck x =>
    have hx := hρ x (by simp [Op.operands])
    simp only [cop] at hc
    split at hc
    · rename_i a e
      rw [e] at hx hc
      generalize hf' : ρ' x = fv at hx
      simp only [Option.some.injEq, Prod.mk.injEq] at hc
      obtain ⟨rfl, rfl⟩ := hc
      cases hx with
      | ptr hb => simp only [execOp, hf']; exact ⟨β, .refl h, .val (.ptr hb)⟩
    · rename_i t v e
      rw [e] at hx hc
      generalize hf' : ρ' x = fv at hx
      simp only [Option.some.injEq, Prod.mk.injEq] at hc
      obtain ⟨rfl, rfl⟩ := hc
      cases hx with
      | iface _ hv => simp only [execOp, hf']; exact ⟨β, .refl h, .val (.iface _ hv)⟩
    · rename_i f xs ys e
      rw [e] at hx hc
      generalize hf' : ρ' x = fv at hx
      simp only [Option.some.injEq, Prod.mk.injEq] at hc
      obtain ⟨rfl, rfl⟩ := hc
      cases hx with
      | func _ h1 h2 => simp only [execOp, hf']; exact ⟨β, .refl h, .val (.func _ h1 h2)⟩
    · cases hc
  | binOp op t x y yt => exact OpSim.of_val h hc fun v hv => sim_bin (hρ x (by simp [Op.operands])) (hρ y (by simp [Op.operands])) hv
  | unOp op t x =>
    simp only [cop] at hc
    split at hc
    · rename_i hf
      refine OpSim.of_val h hc fun v hv => ?_
      rw [(hρ x (by simp [Op.operands])).free_eq hf]
      exact ⟨v, pureF_run hv β w⟩
    · cases hc
  | convert src dst x => exact sim_cconv h (hρ x (by simp [Op.operands])) hc
  | makeInterface t x =>
    simp only [cop] at hc
    split at hc
    · cases hc
    · cases hc
    · rename_i h1 h2
      simp only [Option.some.injEq, Prod.mk.injEq] at hc
      obtain ⟨rfl, rfl⟩ := hc
      have : (Instr.makeInterface t (ρ' x)).run P w = .ok (.iface t (ρ' x)) w := by
        cases hu : P.underlying t with
        | none => exact absurd hu h2
        | some d => cases d <;> first | exact absurd hu (h1 _) | simp [Instr.makeInterface, run_underlying hu]
      simp only [execOp, Sem.run_bind, this, Result.andThen_ok, Sem.run_pure]
      exact ⟨β, .refl h, .val (.iface _ (hρ x (by simp [Op.operands])))⟩
  | makeFunc fn first captured =>
    cases fn with
    | func f =>
      simp only [cop, Option.some.injEq, Prod.mk.injEq] at hc
      obtain ⟨rfl, rfl⟩ := hc
      simp only [execOp, Instr.makeFunc, Sem.run_bind, Result.andThen_ok, Sem.run_pure]
      exact ⟨β, .refl h, .val (.func _ (VsRel.map fun x hx => hρ x (by simp [Op.operands, hx])) (VsRel.map fun x hx => hρ x (by simp [Op.operands, hx])))⟩
    | _ => simp [cop] at hc
  | makeMap t r =>
    cases r with
    | some x => simp [cop] at hc
    | none =>
      simp only [cop] at hc
      cases hn : C.new (.map []) with
      | none => simp [hn] at hc
      | some p =>
        obtain ⟨n, D⟩ := p
        simp only [hn, Option.map_some, Option.some.injEq, Prod.mk.injEq] at hc
        obtain ⟨rfl, rfl⟩ := hc
        obtain ⟨β', h1, h2⟩ := sim_new (o := .map #[] 0) (size := 0) (es := 0) h hn ⟨#[], 0, by simp, by simp; exact .nil, by simp; exact .nil, .empty _⟩
        simp only [execOp, Instr.makeMap, Option.map_none, Sem.run_bind, run_newObj, Result.andThen_ok, Sem.run_pure]
        exact ⟨β', h1, .val (.map h2)⟩
  | makeSlice t l c => exact OpSim.of_valc hc fun v D hv => sim_makeSlice h (hρ l (by simp [Op.operands])) (hρ c (by simp [Op.operands])) hv
  | slice t x lo hi mx =>
    refine OpSim.of_val h hc fun v hv => ?_
    exact sim_slice h (hρ x (by simp [Op.operands])) (opt_rel fun y e => hρ y (by simp [Op.operands, e])) (opt_rel fun y e => hρ y (by simp [Op.operands, e])) (opt_rel fun y e => hρ y (by simp [Op.operands, e])) hv
  | fieldAddr s x f => exact OpSim.of_val h hc fun v hv => sim_fieldAt (hρ x (by simp [Op.operands])) hv
  | field t x f =>
    refine OpSim.of_val h hc fun v hv => ?_
    obtain ⟨v', h1, h2⟩ := sim_field (hρ x (by simp [Op.operands])) hv
    exact ⟨v', pureP_run h1 w, h2⟩
  | indexAddr t x i => exact OpSim.of_val h hc fun v hv => sim_indexAt (hρ x (by simp [Op.operands])) (hρ i (by simp [Op.operands])) hv
  | index t x i =>
    have hx := hρ x (by simp [Op.operands])
    simp only [cop] at hc
    split at hc
    · rename_i cs e
      rw [e] at hx
      refine OpSim.of_val h hc fun v hv => ?_
      obtain ⟨v', h1, h2⟩ := sim_indexArr hx (hρ i (by simp [Op.operands])) hv
      exact ⟨v', pureP_run h1 w, h2⟩
    · split at hc
      · rename_i hf
        refine OpSim.of_val h hc fun v hv => ?_
        rw [hx.free_eq hf.1, (hρ i (by simp [Op.operands])).free_eq hf.2]
        exact ⟨v, pureF_run hv β w⟩
      · cases hc
  | lookup t x i ok => exact OpSim.of_val h hc fun v hv => sim_lookup h (hρ x (by simp [Op.operands])) (hρ i (by simp [Op.operands])) hv
  | mapUpdate t m k x =>
    simp only [cop, Option.map_eq_some_iff, Prod.mk.injEq] at hc
    obtain ⟨D, hd, rfl, rfl⟩ := hc
    exact OpSim.of_unit (sim_mapSet h (hρ m (by simp [Op.operands])) (hρ k (by simp [Op.operands])) (hρ x (by simp [Op.operands])) hd)
  | typeAssert x xt a ok => exact OpSim.of_val h hc fun v hv => sim_assert (hρ x (by simp [Op.operands])) hv
  | extract t i => exact OpSim.of_val h hc fun v hv => sim_extract (hρ t (by simp [Op.operands])) hv
  | call c => exact sim_ccall h (fun x hx => hρ x (by simpa [Op.operands] using hx)) hc
  | defer c =>
    simp only [cop] at hc
    split at hc
    · rename_i f hb
      have hf : VRel β (ρ f) (ρ' f) := hρ f (by simp [Op.operands, Call.operands, hb])
      split at hc
      · rename_i g first captured e
        rw [e] at hf
        generalize hf' : ρ' f = fv at hf
        simp only [Option.some.injEq, Prod.mk.injEq] at hc
        obtain ⟨rfl, rfl⟩ := hc
        cases hf with
        | func _ h1 h2 =>
        simp only [execOp, resolve, hb, hf', Deferred.ofValue, Sem.run_bind, Sem.run_pure, Result.andThen_ok]
        refine ⟨β, .refl h, .dfr _ ?_ h2⟩
        simp only [Array.toList_append]
        exact h1.append (VsRel.map fun x hx => hρ x (by simp [Op.operands, Call.operands, hx]))
      · cases hc
    · cases hc
  | panic x =>
    have hx := hρ x (by simp [Op.operands])
    simp only [cop] at hc
    split at hc
    · rename_i t v e
      rw [e] at hx
      generalize hf' : ρ' x = fv at hx
      simp only [Option.some.injEq, Prod.mk.injEq] at hc
      obtain ⟨rfl, rfl⟩ := hc
      cases hx with
      | iface _ hv =>
        simp only [execOp, hf', Instr.panic, Sem.run_bind, run_goPanic, Result.andThen_halt]
        exact ⟨rfl, rfl, _, rfl, .iface _ hv⟩
    · cases hc
  | _ => simp [cop] at hc

end
end Go.Ev

/- the canonical evaluator of code. -/
namespace Go.Ev

/-- the temporaries (those that are known), and the deferred calls -/
structure CAct where
  T : Tr Value
  dfs : List (FuncId × Array Value × Array Value)

def opd (T : Tr Value) : Operand → Option Value
  | .tmp t => T.get t
  | .const v => if closedV v = true then some v else none
  | .func f => some (.func (.func f) #[] #[])
  | .global _ => none

def rho (T : Tr Value) (x : Operand) : Value := (opd T x).getD undef

/-- all operands are known -/
def known (T : Tr Value) (o : Oper) : Bool := o.op.operands.all fun x => (opd T x).isSome

def tput (n : Nat) (T : Tr Value) (dst : Option Tmp) (v : Value) : Tr Value :=
  match dst with
  | some d => if d < n then T.set 24 d v else T
  | none => T

/-- an operation with a guard: is it done? none: it can't be told -/
def cwanted (ops : Array Oper) (T : Tr Value) (o : Oper) : Option Bool :=
  match o.guard with
  | none => some true
  | some (j, want) =>
    match (ops[j]?).bind (·.dst) with
    | some d => match T.get d with
      | some (.bool b) => some (b == want)
      | some (.tuple _) => some false
      | _ => none
    | none => none

inductive CEnd where
  | ret (v : Value)
  | pnc (v : Value)

inductive CExit where
  | normal
  | exit (id : Nat)
  | ret
  | pnc (v : Value)

/-- what is going on in the frame whose deferred call this is: nothing of the kind; it returns; it panics, recovered or not -/
inductive RM where
  | no
  | returning
  | panicking (v : Value) (recovered : Bool)

abbrev Rec := FuncId → Array Value → CS → Option (CEnd × CS)

inductive Out where
  | next (A : CAct) (C : CS)
  | pnc (v : Value) (A : CAct) (C : CS)

/-- one operation in its region -/
def evOp (P : Program) (rec : Rec) (n : Nat) (ops : Array Oper) (o : Oper) (A : CAct) (C : CS) : Option Out :=
  match cwanted ops A.T o with
  | none => none
  | some false => some (.next { A with T := tput n A.T o.dst undef } C)
  | some true =>
    if known A.T o = true then
      match cop P o (rho A.T) C with
      | some (.val v, D) => some (.next { A with T := tput n A.T o.dst v } D)
      | some (.skip, D) => some (.next { A with T := tput n A.T o.dst undef } D)
      | some (.dfr f args cap, D) => some (.next { T := tput n A.T o.dst undef, dfs := (f, args, cap) :: A.dfs } D)
      | some (.ent f args, D) =>
        match rec f args D with
        | some (.ret v, E) => some (.next { A with T := tput n A.T o.dst v } E)
        | some (.pnc v, E) => some (.pnc v A E)
        | none => none
      | some (.pnc v, D) => some (.pnc v A D)
      | _ => none
    else none

/-- the operations of a region in the order of the text -/
def evOps (P : Program) (rec : Rec) (n : Nat) (ops : Array Oper) : List Oper → CAct → CS → Option (CExit × CAct × CS)
  | [], A, C => some (.normal, A, C)
  | o :: os, A, C =>
    match evOp P rec n ops o A C with
    | some (.next A C) => evOps P rec n ops os A C
    | some (.pnc v A C) => some (.pnc v, A, C)
    | none => none

section
variable {P : Program} [Clean P] {β : Ren} {C C' : CS} {w : World}

inductive DRel (β : Ren) : List (FuncId × Array Value × Array Value) → List Deferred → Prop
  | nil : DRel β [] []
  | cons (f : FuncId) {a a' c c' : Array Value} {xs : List (FuncId × Array Value × Array Value)} {ys : List Deferred} (h : VsRel β a.toList a'.toList) (h' : VsRel β c.toList c'.toList) (hs : DRel β xs ys) :
      DRel β ((f, a, c) :: xs) ({ target := .fn (.func f) c', args := a' } :: ys)

theorem DRel.mono {β γ : Ren} (hle : β.Le γ) : ∀ {xs : List (FuncId × Array Value × Array Value)} {ys : List Deferred}, DRel β xs ys → DRel γ xs ys
  | _, _, .nil => .nil
  | _, _, .cons f h h' hs => .cons f (h.mono hle) (h'.mono hle) (DRel.mono hle hs)

structure ARel (β : Ren) (n : Nat) (A : CAct) (a : Act) : Prop where
  size : a.tmps.size = n
  tmps : ∀ t v, A.T.get t = some v → VRel β v (a.tmps.getD t undef)
  dfs : DRel β A.dfs a.defers

theorem ARel.mono {β γ : Ren} {n : Nat} {A : CAct} {a : Act} (hle : β.Le γ) (h : ARel β n A a) : ARel γ n A a :=
  ⟨h.size, fun t v e => (h.tmps t v e).mono hle, h.dfs.mono hle⟩

theorem tput_get {n : Nat} {T : Tr Value} {dst : Option Tmp} {v : Value} (hn : n < 2 ^ 20) (t : Nat) : (tput n T dst v).get t = if dst = some t ∧ t < n then some v else T.get t := by
  have e20 : (2 : Nat) ^ 20 = 1048576 := by decide
  have e24 : (2 : Nat) ^ 24 = 16777216 := by decide
  unfold tput
  cases dst with
  | none => simp
  | some d =>
    have main : ∀ d : Nat, (if d < n then Tr.set 24 T d v else T).get t = if some d = some t ∧ t < n then some v else T.get t := by
      intro d
      by_cases hd : d < n
      · rw [if_pos hd, Tr.get_set v 24 T d (by omega)]
        by_cases e : t = d
        · subst e; simp [hd]
        · rw [if_neg e, if_neg (by intro h; exact e (Option.some.inj h.1).symm)]
      · rw [if_neg hd, if_neg (by intro h; have h1 := Option.some.inj h.1; have h2 := h.2; omega)]
    exact main d

theorem put_getD {a : Act} {dst : Option Tmp} {v : Value} (t : Nat) : (a.put dst v).tmps.getD t undef = if dst = some t ∧ t < a.tmps.size then v else a.tmps.getD t undef := by
  cases dst with
  | none => simp [Act.put]
  | some d =>
    simp only [Act.put, Array.getD_eq_getD_getElem?, Array.getElem?_setIfInBounds]
    by_cases e : d = t
    · subst e
      by_cases hd : d < a.tmps.size
      · simp [hd]
      · simp [hd]
    · rw [if_neg e, if_neg (by intro h; exact e (Option.some.inj h.1))]

theorem ARel.put {n : Nat} {A : CAct} {a : Act} {v v' : Value} {dst : Option Tmp} (hn : n < 2 ^ 20) (h : ARel β n A a) (hv : VRel β v v') : ARel β n { A with T := tput n A.T dst v } (a.put dst v') := by
  refine ⟨?_, ?_, ?_⟩
  · cases dst <;> simp [Act.put, h.size]
  · intro t u ht
    rw [tput_get hn] at ht
    rw [put_getD, h.size]
    split at ht
    · rename_i e
      simp only [Option.some.injEq] at ht; subst ht
      rw [if_pos e]; exact hv
    · rename_i e
      rw [if_neg e]; exact h.tmps t u ht
  · cases dst <;> exact h.dfs

theorem VRel.undef : VRel β undef undef := .tuple .nil

theorem opd_rel {n : Nat} {A : CAct} {a : Act} {x : Operand} (h : ARel β n A a) (hx : (opd A.T x).isSome = true) : VRel β (rho A.T x) (a.eval x) := by
  unfold rho
  cases x with
  | tmp t =>
    simp only [opd] at hx ⊢
    cases ht : A.T.get t with
    | none => rw [ht] at hx; cases hx
    | some v => simp only [Option.getD_some]; exact h.tmps t v ht
  | const v =>
    simp only [opd] at hx ⊢
    split at hx
    · rename_i hc
      rw [if_pos hc]; exact .of_closed hc
    · cases hx
  | func f => exact .func f .nil .nil
  | global g => cases hx

theorem known_rel {n : Nat} {A : CAct} {a : Act} {o : Oper} (h : ARel β n A a) (hk : known A.T o = true) : ∀ x ∈ o.op.operands, VRel β (rho A.T x) (a.eval x) := by
  intro x hx
  unfold known at hk
  rw [Array.all_eq_true] at hk
  obtain ⟨i, hi, e⟩ := Array.mem_iff_getElem.1 hx
  have := hk i hi
  rw [e] at this
  exact opd_rel h this

theorem cwanted_rel {n : Nat} {A : CAct} {a : Act} {ops : Array Oper} {o : Oper} {b : Bool} (h : ARel β n A a) (hc : cwanted ops A.T o = some b) : Region.wanted o (yielded ops a.tmps) = b := by
  unfold cwanted at hc
  unfold Region.wanted
  split at hc
  · rename_i hg
    rw [hg]; simpa using hc
  · rename_i j want hg
    rw [hg]
    dsimp only
    split at hc
    · rename_i d hd
      unfold yielded
      rw [hd]
      simp only [Option.bind_some]
      split at hc
      · rename_i u hu
        have := h.tmps d _ hu
        rw [Array.getD_eq_getD_getElem?] at this
        cases hx : a.tmps[d]? with
        | none => rw [hx] at this; simp only [Option.getD_none] at this; unfold Go.undef at this; cases this
        | some x =>
          rw [hx] at this; simp only [Option.getD_some] at this
          cases this
          simp only [Option.some.injEq] at hc; subst hc
          cases u <;> cases want <;> rfl
      · rename_i vs hu
        simp only [Option.some.injEq] at hc; subst hc
        have := h.tmps d _ hu
        rw [Array.getD_eq_getD_getElem?] at this
        cases hx : a.tmps[d]? with
        | none => rfl
        | some x =>
          rw [hx] at this; simp only [Option.getD_some] at this
          cases this; rfl
      · cases hc
    · cases hc

end
end Go.Ev

/- regions in the order of the text: soundness. -/
namespace Go.Ev

def ERel (β : Ren) : CEnd → Ending → Prop
  | .ret v, .returned v' => VRel β v v'
  | .pnc v, .panicked [e] => VRel β v e.v ∧ e.recovered = false ∧ e.goexit = false
  | _, _ => False

/-- calls as 'rec' has them are calls of the model -/
def RecOk (P : Program) (rec : Rec) : Prop :=
  ∀ f args C r C', rec f args C = some (r, C') → ∀ (β : Ren) (w : World) (args' : Array Value), WRel β C w → VsRel β args.toList args'.toList →
    Calls P f args' w fun e w' => ∃ β', Ext β C w β' C' w' ∧ ERel β' r e

def XR (β : Ren) : CExit → Exit → Prop
  | .normal, .normal => True
  | .exit i, .exit j => i = j
  | .ret, .ret => True
  | .pnc v, .panic [e] => VRel β v e.v ∧ e.recovered = false ∧ e.goexit = false
  | _, _ => False

/-- what a piece of code comes to -/
def XPost (β : Ren) (C : CS) (w : World) (n : Nat) (x : CExit) (A' : CAct) (C' : CS) : Exit → Act → World → Prop :=
  fun e a' w' => ∃ β', Ext β C w β' C' w' ∧ ARel β' n A' a' ∧ XR β' x e

section
variable {P : Program} [Clean P] {β : Ren} {C C' : CS} {w : World} {rec : Rec} {n : Nat}

theorem evOp_wp {ops : Array Oper} {i : Nat} {o : Oper} {A : CAct} {a : Act} {out : Out} {K : Act → World → Prop} {Q : Exit → Act → World → Prop} (hn : n < 2 ^ 20) (hrec : RecOk P rec) (ho : ops[i]? = some o)
    (hev : evOp P rec n ops o A C = some out) (hA : ARel β n A a) (hW : WRel β C w)
    (hK : ∀ A' D β' a' w', out = .next A' D → Ext β C w β' D w' → ARel β' n A' a' → K a' w')
    (hQ : ∀ v A' D β' e a' w', out = .pnc v A' D → Ext β C w β' D w' → ARel β' n A' a' → XR β' (.pnc v) (.panic [e]) → Q (.panic [e]) a' w') : wpOp P ops Q i K a w := by
  unfold wpOp
  rw [ho]
  dsimp only
  unfold evOp at hev
  split at hev
  · cases hev
  · rename_i hw
    rw [if_neg (by rw [cwanted_rel hA hw]; simp)]
    simp only [Option.some.injEq] at hev; subst hev
    exact hK _ _ β _ _ rfl (.refl hW) (hA.put hn .undef)
  · rename_i hw
    rw [if_pos (cwanted_rel hA hw)]
    left
    split at hev
    · rename_i hk
      have hops := known_rel hA hk
      unfold Oper.wp
      cases hc : cop P o (rho A.T) C with
      | none => simp [hc] at hev
      | some p =>
        obtain ⟨r, D⟩ := p
        have hs := cop_sim hW hops hc
        rw [hc] at hev
        generalize hres : (execOp a.eval o).run P w = res at hs
        cases res with
        | ok nx w' =>
          obtain ⟨β', hE, hN⟩ := hs
          have hA' := hA.mono hE.le
          cases hN with
          | val hv =>
            simp only [Option.some.injEq] at hev; subst hev
            exact hK _ _ β' _ _ rfl hE (hA'.put hn hv)
          | skip =>
            simp only [Option.some.injEq] at hev; subst hev
            exact hK _ _ β' _ _ rfl hE (hA'.put hn .undef)
          | dfr f h1 h2 =>
            simp only [Option.some.injEq] at hev; subst hev
            refine hK _ _ β' _ _ rfl hE ?_
            have h3 : ARel β' n { A with dfs := (f, _, _) :: A.dfs } { a with defers := _ :: a.defers } := ⟨hA'.size, hA'.tmps, .cons f h1 h2 hA'.dfs⟩
            exact h3.put hn .undef
          | ent f h1 =>
            rename_i as as'
            dsimp only at hev
            cases hcall : rec f as D with
            | none => rw [hcall] at hev; cases hev
            | some q =>
              obtain ⟨ce, E⟩ := q
              rw [hcall] at hev
              refine (hrec _ _ _ _ _ hcall β' w' _ hE.rel h1).mono ?_
              rintro e w'' ⟨β'', hE', hR⟩
              have hE2 := hE.trans hE'
              cases ce with
              | ret v =>
                simp only [Option.some.injEq] at hev; subst hev
                cases e with
                | returned v' => exact hK _ _ β'' _ _ rfl hE2 ((hA.mono hE2.le).put hn hR)
                | panicked ch => exact hR.elim
                | outgrown => exact hR.elim
              | pnc v =>
                simp only [Option.some.injEq] at hev; subst hev
                cases e with
                | returned v' => exact hR.elim
                | panicked ch =>
                  cases ch with
                  | nil => exact hR.elim
                  | cons x xs =>
                    cases xs with
                    | nil => exact hQ _ _ _ β'' _ _ _ rfl hE2 (hA.mono hE2.le) hR
                    | cons y ys => exact hR.elim
                | outgrown => exact hR.elim
          | rcv => cases hev
        | halt h w' =>
          cases h with
          | panic v' =>
            obtain ⟨rfl, rfl, v, rfl, hv⟩ := hs
            simp only [Option.some.injEq] at hev; subst hev
            exact hQ _ _ _ β _ _ _ rfl (.refl hW) hA ⟨hv, rfl, rfl⟩
          | _ => exact hs.elim
    · cases hev

theorem Ext.ARel_trans {β' : Ren} {D : CS} {w' : World} {A : CAct} {a : Act} (hE : Ext β C w β' D w') (h : ARel β n A a) : ARel β' n A a := h.mono hE.le

theorem evOps_wp {ops : Array Oper} (hn : n < 2 ^ 20) (hrec : RecOk P rec) {Q : Exit → Act → World → Prop} : ∀ (l : List Nat) (A : CAct) (C : CS) (a : Act) (w : World) (β : Ren) (os : List Oper) (x : CExit) (A' : CAct) (C' : CS), (∀ i ∈ l, i < ops.size) → os = l.filterMap (ops[·]?) →
    evOps P rec n ops os A C = some (x, A', C') → ARel β n A a → WRel β C w → (∀ e a' w', XPost β C w n x A' C' e a' w' → Q e a' w') → wpOps P ops Q l a w := by
  intro l
  induction l with
  | nil =>
    intro A C a w β os x A' C' _ hos hev hA hW hQ
    subst hos
    simp only [List.filterMap_nil, evOps, Option.some.injEq, Prod.mk.injEq] at hev
    obtain ⟨rfl, rfl, rfl⟩ := hev
    exact hQ _ _ _ ⟨β, .refl hW, hA, trivial⟩
  | cons i l ih =>
    intro A C a w β os x A' C' hl hos hev hA hW hQ
    have hi : i < ops.size := hl i (by simp)
    have ho : ops[i]? = some ops[i] := by simp [hi]
    rw [List.filterMap_cons, ho] at hos
    subst hos
    dsimp only at hev
    simp only [evOps] at hev
    rw [wpOps_cons]
    split at hev
    · rename_i A1 C1 he
      refine evOp_wp hn hrec ho he hA hW ?_ ?_
      · rintro A2 D β' a' w' e hE hA2
        cases e
        refine ih A1 C1 a' w' β' _ x A' C' (fun j hj => hl j (by simp [hj])) rfl hev hA2 hE.rel ?_
        rintro e a'' w'' ⟨β'', h1, h2, h3⟩
        exact hQ _ _ _ ⟨β'', hE.trans h1, h2, h3⟩
      · intro v A2 D β' e a' w' h; cases h
    · rename_i v A1 C1 he
      simp only [Option.some.injEq, Prod.mk.injEq] at hev
      obtain ⟨rfl, rfl, rfl⟩ := hev
      refine evOp_wp hn hrec ho he hA hW ?_ ?_
      · intro A2 D β' a' w' h; cases h
      · rintro v' A2 D β' e a' w' h hE hA2 hX
        cases h
        exact hQ _ _ _ ⟨β', hE, hA2, hX⟩
    · cases hev

end
end Go.Ev

/- regions that draw their order: the evaluator and its checks. -/
namespace Go.Ev

/-! ## equality of values, decided (sound, not complete) -/
def veqS : Value → Value → Bool
  | .bool a, .bool b => a == b
  | .int j a, .int k b => j == k && a == b
  | .float j a, .float k b => j == k && a == b
  | .string a, .string b => a.data.toList == b.data.toList
  | .pointer a, .pointer b => a == b
  | .slice a l c, .slice b m d => a == b && l == m && c == d
  | .map a, .map b => a == b
  | .nilFunc, .nilFunc => true
  | .nilIface, .nilIface => true
  | _, _ => false

def veqL (f : Value → Value → Bool) : List Value → List Value → Bool
  | [], [] => true
  | x :: xs, y :: ys => f x y && veqL f xs ys
  | _, _ => false

def veq : Nat → Value → Value → Bool
  | n + 1, .agg a, .agg b => veqL (veq n) a.toList b.toList
  | n + 1, .tuple a, .tuple b => veqL (veq n) a.toList b.toList
  | n + 1, .iface t v, .iface u w => t == u && veq n v w
  | n + 1, .func (.func f) a b, .func (.func g) c d => f == g && veqL (veq n) a.toList c.toList && veqL (veq n) b.toList d.toList
  | _, v, w => veqS v w

theorem veqS_eq {v w : Value} (h : veqS v w = true) : v = w := by
  unfold veqS at h
  split at h
  · simp at h; rw [h]
  · simp at h; rw [h.1, h.2]
  · simp at h; rw [h.1, h.2]
  · rename_i a b
    have : a.data.toList = b.data.toList := by simpa using h
    have : a.data = b.data := Array.ext' this
    cases a; cases b; simp at this; rw [this]
  · simp at h; rw [h]
  · simp at h; rw [h.1.1, h.1.2, h.2]
  · simp at h; rw [h]
  · rfl
  · rfl
  · cases h

theorem veqL_eq {f : Value → Value → Bool} (hf : ∀ v w, f v w = true → v = w) : ∀ {xs ys : List Value}, veqL f xs ys = true → xs = ys
  | [], [], _ => rfl
  | x :: xs, y :: ys, h => by
    simp only [veqL, Bool.and_eq_true] at h
    rw [hf x y h.1, veqL_eq hf h.2]
  | [], _ :: _, h => by simp [veqL] at h
  | _ :: _, [], h => by simp [veqL] at h

theorem veq_eq : ∀ {n : Nat} {v w : Value}, veq n v w = true → v = w := by
  intro n
  induction n with
  | zero => intro v w h; unfold veq at h; exact veqS_eq h
  | succ n ih =>
    intro v w h
    unfold veq at h
    split at h
    · rename_i e; cases e
      exact congrArg Value.agg (Array.ext' (veqL_eq (fun v w => ih) h))
    · rename_i e; cases e
      exact congrArg Value.tuple (Array.ext' (veqL_eq (fun v w => ih) h))
    · rename_i e; cases e
      simp only [Bool.and_eq_true, beq_iff_eq] at h
      rw [h.1, ih h.2]
    · rename_i e; cases e
      simp only [Bool.and_eq_true, beq_iff_eq] at h
      rw [h.1.1, Array.ext' (veqL_eq (fun v w => ih) h.1.2), Array.ext' (veqL_eq (fun v w => ih) h.2)]
    · exact veqS_eq h

/-! ## the kinds of operations -/
/-- it makes one new block of what it is handed -/
def isA : Op → Bool
  | .alloc _ | .box .. | .buildSlice .. | .makeSlice .. | .makeMap .. => true
  | _ => false

/-- it reads alone -/
def isR (P : Program) : Op → Bool
  | .move _ | .assign _ | .pick .. | .build .. | .load .. | .nilCheck _ | .binOp .. | .unOp .. | .makeInterface .. | .makeFunc .. | .slice .. | .fieldAddr .. | .field .. | .indexAddr .. | .index .. | .lookup .. | .typeAssert .. | .extract .. => true
  | .convert _ dst _ => match P.underlying dst with | some (.slice _) => false | _ => true
  | .call { callee := .builtin .len, .. } | .call { callee := .builtin .max, .. } | .call { callee := .builtin .min, .. } => true
  | _ => false

theorem cvs_same {r : Option Value} {C C' : CS} {cr : CRes} (h : cvs r C = some (cr, C')) : C' = C ∧ ∃ v, cr = .val v := by
  unfold cvs at h
  cases r with
  | none => cases h
  | some v =>
    simp only [Option.map_some, Option.some.injEq, Prod.mk.injEq] at h
    exact ⟨h.2.symm, v, h.1.symm⟩

theorem cbuiltin_R {P : Program} [Clean P] {b : Builtin} {T : Array TypeId} {type : TypeId} {l : List Value} {C C' : CS} {r : CRes} (hb : b = .len ∨ b = .max ∨ b = .min) (h : cbuiltin P b T type l C = some (r, C')) : C' = C ∧ ∃ v, r = .val v := by
  rcases hb with rfl | rfl | rfl
  · cases l with
    | nil => simp [cbuiltin] at h
    | cons x l =>
      cases l with
      | nil => simp only [cbuiltin] at h; exact cvs_same h
      | cons y l => simp [cbuiltin] at h
  · simp only [cbuiltin] at h
    split at h
    · exact cvs_same h
    · cases h
  · simp only [cbuiltin] at h
    split at h
    · exact cvs_same h
    · cases h

theorem cop_R {P : Program} [Clean P] {o : Oper} {ρ : Operand → Value} {C C' : CS} {r : CRes} (hR : isR P o.op = true) (h : cop P o ρ C = some (r, C')) : C' = C ∧ ∃ v, r = .val v := by
  obtain ⟨dst, op, type, pos, after, guard⟩ := o
  have one : ∀ {v : Value}, some (CRes.val v, C) = some (r, C') → C' = C ∧ ∃ v, r = .val v := by
    intro v e
    simp only [Option.some.injEq, Prod.mk.injEq] at e
    exact ⟨e.2.symm, _, e.1.symm⟩
  cases op with
  | move x => exact one h
  | assign x => exact one h
  | pick c a b =>
    simp only [cop] at h
    split at h
    · exact one h
    · cases h
  | build t parts =>
    simp only [cop] at h
    split at h
    · exact cvs_same h
    · cases h
  | load t a => exact cvs_same h
  | nilCheck x =>
    simp only [cop] at h
    split at h <;> first | exact one h | cases h
  | binOp op t x y yt => exact cvs_same h
  | unOp op t x =>
    simp only [cop] at h
    split at h
    · exact cvs_same h
    · cases h
  | makeInterface t x =>
    simp only [cop] at h
    split at h
    · cases h
    · cases h
    · exact one h
  | makeFunc fn first captured =>
    cases fn with
    | func f => exact one h
    | _ => simp [cop] at h
  | slice t x lo hi mx => exact cvs_same h
  | fieldAddr s x f => exact cvs_same h
  | field t x f => exact cvs_same h
  | indexAddr t x i => exact cvs_same h
  | index t x i =>
    simp only [cop] at h
    split at h
    · exact cvs_same h
    · split at h
      · exact cvs_same h
      · cases h
  | lookup t x i ok => exact cvs_same h
  | typeAssert x xt a ok => exact cvs_same h
  | extract t i => exact cvs_same h
  | convert src dst x =>
    simp only [cop, cconv] at h
    simp only [isR] at hR
    split at h
    · rename_i e s hs hd _
      rw [hd] at hR; simp at hR
    · split at h
      · exact cvs_same h
      · cases h
    · split at h
      · exact cvs_same h
      · cases h
  | call c =>
    obtain ⟨callee, args, T⟩ := c
    cases callee with
    | builtin b =>
      simp only [cop, ccall] at h
      cases b with
      | len => exact cbuiltin_R (.inl rfl) h
      | max => exact cbuiltin_R (.inr (.inl rfl)) h
      | min => exact cbuiltin_R (.inr (.inr rfl)) h
      | _ => simp [isR] at hR
    | _ => simp [isR] at hR
  | _ => simp [isR] at hR

end Go.Ev

/- regions that draw their order: the evaluator. -/
namespace Go.Ev

def CS.addNew (C : CS) (x : CB) : CS := { C with heap := C.heap.set 40 C.next x, next := C.next + 1 }

theorem CS.new_eq {C : CS} {x : CB} (h : C.next < C.lim) (h' : C.lim ≤ bnd) : C.new x = some (C.next, C.addNew x) := by
  rw [CS.new_def]; unfold CS.addNew; rw [if_pos ⟨h, h'⟩]

theorem CS.new_inv {C C' : CS} {x : CB} {n : Nat} (h : C.new x = some (n, C')) : n = C.next ∧ C' = C.addNew x ∧ C.next < C.lim ∧ C.lim ≤ bnd := by
  rw [CS.new_def] at h
  split at h
  · rename_i hb
    simp only [Option.some.injEq, Prod.mk.injEq] at h
    exact ⟨h.1.symm, h.2.symm, hb.1, hb.2⟩
  · cases h

/-- what makes one new block -/
structure MakesOne (f : CS → Option (CRes × CS)) (C : CS) (v : Value) (x : CB) : Prop where
  room : C.next < C.lim ∧ C.lim ≤ bnd
  live : x ≠ .dead
  val : v = .pointer (some ⟨C.next, 0, none⟩) ∨ (∃ l c, v = .slice (some ⟨C.next, 0, none⟩) l c) ∨ v = .map (some C.next)
  all : ∀ D : CS, D.next = C.next → D.next < D.lim → D.lim ≤ bnd → f D = some (.val v, D.addNew x)

theorem makesOne_new {g : Nat → Value} {x : CB} {C C' : CS} {r : CRes} {f : CS → Option (CRes × CS)} (hx : x ≠ .dead) (hg : ∀ m, g m = .pointer (some ⟨m, 0, none⟩) ∨ (∃ l c, g m = .slice (some ⟨m, 0, none⟩) l c) ∨ g m = .map (some m)) (hf : ∀ D, f D = (D.new x).map fun p => (.val (g p.1), p.2)) (h : f C = some (r, C')) :
    ∃ v, r = .val v ∧ C' = C.addNew x ∧ MakesOne f C v x := by
  rw [hf] at h
  cases hn : C.new x with
  | none => rw [hn] at h; cases h
  | some p =>
    obtain ⟨n, D⟩ := p
    rw [hn] at h
    simp only [Option.map_some, Option.some.injEq, Prod.mk.injEq] at h
    obtain ⟨rfl, rfl⟩ := h
    obtain ⟨rfl, rfl, h1, h2⟩ := CS.new_inv hn
    refine ⟨_, rfl, rfl, ⟨h1, h2⟩, hx, hg _, fun D e h3 h4 => ?_⟩
    rw [hf, CS.new_eq h3 h4, e]; rfl

theorem cop_A {P : Program} [Clean P] {o : Oper} {ρ : Operand → Value} {C C' : CS} {r : CRes} (hA : isA o.op = true) (h : cop P o ρ C = some (r, C')) : ∃ v x, r = .val v ∧ C' = C.addNew x ∧ MakesOne (cop P o ρ) C v x := by
  obtain ⟨dst, op, type, pos, after, guard⟩ := o
  cases op with
  | alloc e =>
    cases hz : zero? P e with
    | none => simp [cop, hz] at h
    | some z =>
      by_cases hcl : closedV z = true
      · obtain ⟨v, h1, h2, h3⟩ := makesOne_new (f := cop P ⟨dst, .alloc e, type, pos, after, guard⟩ ρ) (x := .cells z.cells.toList 0 0) (g := fun n => .pointer (some ⟨n, 0, none⟩)) (by simp) (fun m => .inl rfl)
          (fun D => by simp only [cop, hz, Option.bind_some, hcl, if_true, cvc, cbox, Option.map_map]; rfl) h
        exact ⟨v, _, h1, h2, h3⟩
      · simp [cop, hz, hcl] at h
  | box e x =>
    obtain ⟨v, h1, h2, h3⟩ := makesOne_new (f := cop P ⟨dst, .box e x, type, pos, after, guard⟩ ρ) (x := .cells (ρ x).cells.toList 0 0) (g := fun n => .pointer (some ⟨n, 0, none⟩)) (by simp) (fun m => .inl rfl)
      (fun D => by simp only [cop, cvc, cbox, Option.map_map]; rfl) h
    exact ⟨v, _, h1, h2, h3⟩
  | buildSlice t len parts =>
    by_cases hlen : len < unk
    · cases hu : P.underlying t with
      | none => simp [cop, hlen, cbuildSlice, hu, cvc] at h
      | some d =>
        cases d with
        | slice elem =>
          cases hs : size? P elem with
          | none => simp [cop, hlen, cbuildSlice, hu, hs, cvc] at h
          | some size =>
            cases hz : zero? P elem with
            | none => simp [cop, hlen, cbuildSlice, hu, hs, hz, cvc] at h
            | some z =>
              by_cases hcond : len * size ≤ 2 ^ 24 ∧ closedV z = true
              · cases hf : Instr.fill (fun i => some (i * size, size)) (zeroRow z (len * size)) (parts.toList.map fun (i, x) => (i, ρ x)) with
                | none => simp only [cop, hlen, if_true, cbuildSlice, hu, hs, hz, hcond, hf, cvc] at h; cases h
                | some cells =>
                  obtain ⟨v, h1, h2, h3⟩ := makesOne_new (f := cop P ⟨dst, .buildSlice t len parts, type, pos, after, guard⟩ ρ) (x := .cells cells.toList 0 0) (g := fun n => .slice (some ⟨n, 0, none⟩) len len) (by simp) (fun m => .inr (.inl ⟨_, _, rfl⟩))
                    (fun D => by simp only [cop, hlen, if_true, cbuildSlice, hu, hs, hz, hcond, and_self, hf, cvc, Option.map_map]; rfl) h
                  exact ⟨v, _, h1, h2, h3⟩
              · simp [cop, hlen, cbuildSlice, hu, hs, hz, hcond, cvc] at h
        | _ => simp [cop, hlen, cbuildSlice, hu, cvc] at h
    · simp [cop, hlen] at h
  | makeSlice t l c =>
    simp only [cop, cvc] at h
    cases hm : cmakeSlice P C t (ρ l) (ρ c) with
    | none => rw [hm] at h; cases h
    | some p =>
      have hm' := hm
      unfold cmakeSlice at hm
      split at hm
      · rename_i elem kl nl kc nc hu e1 e2
        split at hm
        · rename_i size z bytes hs hz hb
          split at hm
          · rename_i hcond
            obtain ⟨v, h1, h2, h3⟩ := makesOne_new (f := cop P ⟨dst, .makeSlice t l c, type, pos, after, guard⟩ ρ) (x := .cells (zeroRow z (nc.toNat * size)).toList 0 0) (g := fun n => .slice (some ⟨n, 0, none⟩) nl.toNat nc.toNat) (by simp) (fun m => .inr (.inl ⟨_, _, rfl⟩))
              (fun D => by simp only [cop, cvc, cmakeSlice, hu, e1, e2, hs, hz, hb, hcond, and_self, if_true, Option.map_map]; rfl) h
            exact ⟨v, _, h1, h2, h3⟩
          · cases hm
        · cases hm
      · cases hm
  | makeMap t r' =>
    cases r' with
    | some x => simp [cop] at h
    | none =>
      obtain ⟨v, h1, h2, h3⟩ := makesOne_new (f := cop P ⟨dst, .makeMap t none, type, pos, after, guard⟩ ρ) (x := .map []) (g := fun n => .map (some n)) (by simp) (fun m => .inr (.inr rfl)) (fun D => by simp only [cop]) h
      exact ⟨v, _, h1, h2, h3⟩
  | _ => simp [isA] at hA

/-! ## the run in the canonical order -/
structure DSt where
  T : Tr Value
  C : CS
  dfs : List (FuncId × Array Value × Array Value)
  st : List CS       -- the memories behind each operation that acts, the newest first

structure Ent where
  i : Nat
  s : DSt
  v : Value

inductive DRes where
  | next (v : Value) (s : DSt)
  | pnc (v : Value) (C : CS)

def befB (bef : Array Nat) (i j : Nat) : Bool := (bef.getD i 0).testBit j

/-- it acts -/
def isE (P : Program) (o : Oper) : Bool := !(isA o.op) && !(isR P o.op)

def lowOf (P : Program) (ops : Array Oper) (bef : Array Nat) (i : Nat) : Nat :=
  (List.range ops.size).countP fun j => befB bef i j && ((ops[j]?).map (isE P)).getD false

/-- the same at all memories that it may meet -/
def stable (P : Program) (o : Oper) (T : Tr Value) (v : Value) (l : List CS) : Bool :=
  l.all fun S => match cop P o (rho T) S with
    | some (.val u, _) => veq 4 u v
    | _ => false

def dstep (P : Program) (rec : Rec) (n : Nat) (ops : Array Oper) (bef : Array Nat) (base : Nat) (i : Nat) (s : DSt) : Option DRes :=
  match ops[i]? with
  | none => none
  | some o =>
    match cwanted ops s.T o with
    | none => none
    | some false => some (.next undef { s with T := tput n s.T o.dst undef, st := if isE P o = true then s.C :: s.st else s.st })
    | some true =>
      if known s.T o = true then
        if isA o.op = true then
          match cop P o (rho s.T) { s.C with next := base + i, lim := base + i + 1 } with
          | some (.val v, D) =>
            if s.st.all (fun S => (S.get (base + i)).isNone) = true then some (.next v { s with T := tput n s.T o.dst v, C := { D with next := s.C.next, lim := s.C.lim } }) else none
          | _ => none
        else if isR P o.op = true then
          match cop P o (rho s.T) s.C with
          | some (.val v, _) =>
            if stable P o s.T v (s.st.take (s.st.length - lowOf P ops bef i)) = true then some (.next v { s with T := tput n s.T o.dst v }) else none
          | _ => none
        else
          match cop P o (rho s.T) s.C with
          | some (.val v, D) => some (.next v { T := tput n s.T o.dst v, C := D, dfs := s.dfs, st := D :: s.st })
          | some (.skip, D) => some (.next undef { T := tput n s.T o.dst undef, C := D, dfs := s.dfs, st := D :: s.st })
          | some (.dfr f args cap, D) => some (.next undef { T := tput n s.T o.dst undef, C := D, dfs := (f, args, cap) :: s.dfs, st := D :: s.st })
          | some (.ent f args, D) =>
            match rec f args D with
            | some (.ret v, E) => some (.next v { T := tput n s.T o.dst v, C := E, dfs := s.dfs, st := E :: s.st })
            | some (.pnc v, E) => some (.pnc v E)
            | none => none
          | some (.pnc v, D) => some (.pnc v D)
          | _ => none
      else none

/-- those that go on where nothing panics -/
def drun0 (P : Program) (rec : Rec) (n : Nat) (ops : Array Oper) (bef : Array Nat) (base : Nat) : List Nat → DSt → Option (List Ent × DSt)
  | [], s => some ([], s)
  | i :: is, s =>
    match dstep P rec n ops bef base i s with
    | some (.next v s') => (drun0 P rec n ops bef base is s').map fun p => (⟨i, s, v⟩ :: p.1, p.2)
    | _ => none

inductive DOut where
  | done (l : List Ent) (s : DSt)
  | pnc (l₁ : List Ent) (i : Nat) (s : DSt) (v : Value) (C : CS) (rest : List Nat) (l₂ : List Ent)

def drun (P : Program) (rec : Rec) (n : Nat) (ops : Array Oper) (bef : Array Nat) (base : Nat) : List Nat → DSt → Option DOut
  | [], s => some (.done [] s)
  | i :: is, s =>
    match dstep P rec n ops bef base i s with
    | some (.next v s') =>
      match drun P rec n ops bef base is s' with
      | some (.done l f) => some (.done (⟨i, s, v⟩ :: l) f)
      | some (.pnc l₁ j t u D rest l₂) => some (.pnc (⟨i, s, v⟩ :: l₁) j t u D rest l₂)
      | none => none
    | some (.pnc v D) => (drun0 P rec n ops bef base (is.filter fun j => !befB bef j i) s).map fun p => .pnc [] i s v D is p.1
    | none => none

/-! ## the canonical order, and what is asked of it -/
def orderOf (P : Program) (ops : Array Oper) (bef : Array Nat) : List Nat :=
  let es := (List.range ops.size).filter fun j => ((ops[j]?).map (isE P)).getD false
  let step (acc : List Nat) (e : Nat) : List Nat := acc ++ ((List.range ops.size).filter fun j => befB bef e j && !acc.contains j) ++ [e]
  let acc := es.foldl step []
  acc ++ (List.range ops.size).filter fun j => !acc.contains j

def readsOf (ops : Array Oper) (o : Oper) : List Tmp := o.looksAt ops

def pairOk (P : Program) (ops : Array Oper) (bef : Array Nat) (i j : Nat) : Bool :=
  !befB bef i j && (!((ops[j]?).map (isE P)).getD false || befB bef j i)

def pairwiseB (f : Nat → Nat → Bool) : List Nat → Bool
  | [] => true
  | x :: xs => xs.all (f x) && pairwiseB f xs

def okDraw (P : Program) (ops : Array Oper) (bef : Array Nat) (ord : List Nat) : Bool :=
  ord.all (· < ops.size) && pairwiseB (fun i j => i != j) ord &&
  pairwiseB (pairOk P ops bef) ord &&
  (List.range ops.size).all (fun i => match ops[i]? with
    | some o =>
      o.after.toList.all (fun e => !Region.binds .any e || e.on < i) &&
      (List.range ops.size).all (fun j => !befB bef i j || o.after.toList.any fun e => Region.binds .any e && (e.on == j || befB bef e.on j)) &&
      (List.range ops.size).all (fun j => i == j || match ops[j]? with
        | some u =>
          (match o.dst, u.dst with | some d, some d' => d != d' | _, _ => true) &&
          (match u.dst with | some d => !(o.looksAt ops).contains d || befB bef i j || befB bef j i | none => true)
        | none => true)
    | none => false)

/-- temporaries that the region doesn't write -/
def Tr.clr {α : Type} : Tr α → Nat → Tr α
  | .lf, _ => .lf
  | .nd _ l r, 0 => .nd none l r
  | .nd o l r, k + 1 => if k % 2 = 0 then .nd o (l.clr (k / 2)) r else .nd o l (r.clr (k / 2))

theorem Tr.get_clr {α : Type} : ∀ (t : Tr α) (k j : Nat), (t.clr k).get j = if j = k then none else t.get j := by
  intro t
  induction t with
  | lf => intro k j; simp [Tr.clr, Tr.get_lf]
  | nd o l r ihl ihr =>
    intro k j
    cases k with
    | zero => cases j <;> simp [Tr.clr, Tr.get_z, Tr.get_s, Tr.get_lf]
    | succ k =>
      simp only [Tr.clr]
      by_cases hp : k % 2 = 0
      · rw [if_pos hp]
        cases j with
        | zero => simp [Tr.get_z, Tr.get_lf]
        | succ j =>
          simp only [Tr.get_z, Tr.get_s, Tr.get_lf]
          by_cases hj : j % 2 = 0
          · rw [if_pos hj, if_pos hj, ihl]
            by_cases e : j = k
            · subst e; simp
            · rw [if_neg (by omega), if_neg (by omega)]
          · rw [if_neg hj, if_neg hj, if_neg (by intro h; have := Nat.succ.inj h; subst this; exact hj hp)]
      · rw [if_neg hp]
        cases j with
        | zero => simp [Tr.get_z, Tr.get_lf]
        | succ j =>
          simp only [Tr.get_z, Tr.get_s, Tr.get_lf]
          by_cases hj : j % 2 = 0
          · rw [if_pos hj, if_pos hj, if_neg (by intro h; have := Nat.succ.inj h; subst this; exact hp hj)]
          · rw [if_neg hj, if_neg hj, ihr]
            by_cases e : j = k
            · subst e; simp
            · rw [if_neg (by omega), if_neg (by omega)]

def withoutDsts (ops : List Oper) (T : Tr Value) : Tr Value := ops.foldl (fun T o => match o.dst with | some d => T.clr d | none => T) T

theorem withoutDsts_get : ∀ (ops : List Oper) (T : Tr Value) (t : Nat) (v : Value), (withoutDsts ops T).get t = some v → T.get t = some v ∧ ∀ o ∈ ops, o.dst ≠ some t
  | [], T, t, v, h => ⟨h, fun _ h => by simp at h⟩
  | o :: ops, T, t, v, h => by
    simp only [withoutDsts, List.foldl_cons] at h
    obtain ⟨h1, h2⟩ := withoutDsts_get ops _ t v h
    cases hd : o.dst with
    | none =>
      rw [hd] at h1
      refine ⟨h1, fun u hu => ?_⟩
      rcases List.mem_cons.1 hu with rfl | hu
      · rw [hd]; simp
      · exact h2 u hu
    | some d =>
      rw [hd] at h1
      simp only [Tr.get_clr] at h1
      split at h1
      · cases h1
      · rename_i hne
        refine ⟨h1, fun u hu => ?_⟩
        rcases List.mem_cons.1 hu with rfl | hu
        · rw [hd]; intro e; exact hne (Option.some.inj e).symm
        · exact h2 u hu

end Go.Ev

/- regions that draw their order: the invariant. -/
namespace Go.Ev

section
variable {P : Program} [Clean P] {rec : Rec} {n : Nat} {ops : Array Oper} {bef : Array Nat} {base : Nat}

inductive Chain (P : Program) (rec : Rec) (n : Nat) (ops : Array Oper) (bef : Array Nat) (base : Nat) : DSt → List Ent → DSt → Prop
  | nil (s : DSt) : Chain P rec n ops bef base s [] s
  | cons {i : Nat} {s s' f : DSt} {v : Value} {l : List Ent} (h : dstep P rec n ops bef base i s = some (.next v s')) (t : Chain P rec n ops bef base s' l f) : Chain P rec n ops bef base s (⟨i, s, v⟩ :: l) f


theorem Chain.append {s m f : DSt} {l k : List Ent} (h : Chain P rec n ops bef base s l m) (h' : Chain P rec n ops bef base m k f) : Chain P rec n ops bef base s (l ++ k) f := by
  induction h with
  | nil => exact h'
  | cons h t ih => exact .cons h (ih h')

theorem Chain.split {s f : DSt} : ∀ {l k : List Ent}, Chain P rec n ops bef base s (l ++ k) f → ∃ m, Chain P rec n ops bef base s l m ∧ Chain P rec n ops bef base m k f := by
  intro l
  induction l generalizing s with
  | nil => intro k h; exact ⟨s, .nil s, h⟩
  | cons e l ih =>
    intro k h
    cases h with
    | cons h t =>
      obtain ⟨m, h1, h2⟩ := ih t
      exact ⟨m, .cons h h1, h2⟩

theorem Chain.head {s f : DSt} {e : Ent} {l : List Ent} (h : Chain P rec n ops bef base s (e :: l) f) : e.s = s ∧ ∃ s', dstep P rec n ops bef base e.i s = some (.next e.v s') ∧ Chain P rec n ops bef base s' l f := by
  cases h with
  | cons h t => exact ⟨rfl, _, h, t⟩

theorem drun0_chain : ∀ {is : List Nat} {s f : DSt} {l : List Ent}, drun0 P rec n ops bef base is s = some (l, f) → Chain P rec n ops bef base s l f ∧ l.map (·.i) = is := by
  intro is
  induction is with
  | nil =>
    intro s f l h
    simp only [drun0, Option.some.injEq, Prod.mk.injEq] at h
    obtain ⟨rfl, rfl⟩ := h
    exact ⟨.nil _, rfl⟩
  | cons i is ih =>
    intro s f l h
    simp only [drun0] at h
    split at h
    · rename_i v s' hs
      simp only [Option.map_eq_some_iff, Prod.mk.injEq] at h
      obtain ⟨⟨l', f'⟩, h1, rfl, rfl⟩ := h
      obtain ⟨h2, h3⟩ := ih h1
      exact ⟨.cons hs h2, by simp [h3]⟩
    · cases h

theorem drun_chain : ∀ {is : List Nat} {s : DSt} {out : DOut}, drun P rec n ops bef base is s = some out →
    match out with
    | .done l f => Chain P rec n ops bef base s l f ∧ l.map (·.i) = is
    | .pnc l₁ i t v D rest l₂ => ∃ f, Chain P rec n ops bef base s l₁ t ∧ dstep P rec n ops bef base i t = some (.pnc v D) ∧ Chain P rec n ops bef base t l₂ f ∧ is = l₁.map (·.i) ++ i :: rest ∧ l₂.map (·.i) = rest.filter (fun j => !befB bef j i) := by
  intro is
  induction is with
  | nil =>
    intro s out h
    simp only [drun, Option.some.injEq] at h; subst h
    exact ⟨.nil _, rfl⟩
  | cons i is ih =>
    intro s out h
    simp only [drun] at h
    split at h
    · rename_i v s' hs
      split at h
      · rename_i l f hr
        simp only [Option.some.injEq] at h; subst h
        obtain ⟨h1, h2⟩ := ih hr
        exact ⟨.cons hs h1, by simp [h2]⟩
      · rename_i l₁ j t u D rest l₂ hr
        simp only [Option.some.injEq] at h; subst h
        obtain ⟨f, h1, h2, h3, h4, h5⟩ := ih hr
        exact ⟨f, .cons hs h1, h2, h3, by simp [h4], h5⟩
      · cases h
    · rename_i v D hs
      simp only [Option.map_eq_some_iff] at h
      obtain ⟨⟨l, f⟩, h1, rfl⟩ := h
      obtain ⟨h2, h3⟩ := drun0_chain h1
      exact ⟨f, .nil _, hs, h2, rfl, h3⟩
    · cases h

/-! ## what the check gives -/
structure DOk (P : Program) (n : Nat) (ops : Array Oper) (bef : Array Nat) (ord : List Nat) : Prop where
  lt : ∀ i ∈ ord, i < ops.size
  nodup : ord.Pairwise (fun i j => i ≠ j)
  pair : ord.Pairwise (fun i j => befB bef i j = false ∧ (∀ u : Oper, ops[j]? = some u → isE P u = true → befB bef j i = true))
  edge : ∀ (i : Nat) (o : Oper), ops[i]? = some o → ∀ e ∈ o.after.toList, Region.binds .any e = true → e.on < i
  closed : ∀ (i : Nat) (o : Oper) (j : Nat), ops[i]? = some o → j < ops.size → befB bef i j = true → ∃ e ∈ o.after.toList, Region.binds .any e = true ∧ (e.on = j ∨ befB bef e.on j = true)
  dsts : ∀ (i j : Nat) (o u : Oper) (d : Tmp), i ≠ j → ops[i]? = some o → ops[j]? = some u → o.dst = some d → u.dst ≠ some d
  reads : ∀ (i j : Nat) (o u : Oper) (d : Tmp), i ≠ j → ops[i]? = some o → ops[j]? = some u → u.dst = some d → d ∈ o.looksAt ops → befB bef i j = true ∨ befB bef j i = true
  small : ∀ (i : Nat) (o : Oper) (d : Tmp), ops[i]? = some o → o.dst = some d → d < n

theorem pairwiseB_spec {f : Nat → Nat → Bool} : ∀ {l : List Nat}, pairwiseB f l = true → l.Pairwise (fun i j => f i j = true)
  | [], _ => .nil
  | x :: xs, h => by
    simp only [pairwiseB, Bool.and_eq_true, List.all_eq_true] at h
    exact .cons h.1 (pairwiseB_spec h.2)

def okSmall (n : Nat) (ops : Array Oper) : Bool := ops.toList.all fun o => match o.dst with | some d => decide (d < n) | none => true

theorem dok_of {ord : List Nat} (h : okDraw P ops bef ord = true) (hs : okSmall n ops = true) : DOk P n ops bef ord := by
  unfold okDraw at h
  simp only [Bool.and_eq_true] at h
  obtain ⟨⟨⟨h2, h3⟩, h4⟩, h5⟩ := h
  have hlt : ∀ {i : Nat} {o : Oper}, ops[i]? = some o → i < ops.size := by
    intro i o ho
    rcases Nat.lt_or_ge i ops.size with h' | h'
    · exact h'
    · rw [Array.getElem?_eq_none h'] at ho; cases ho
  have h6 : ∀ {i : Nat} {o : Oper}, ops[i]? = some o → _ := fun {i o} ho => List.all_eq_true.1 h5 i (List.mem_range.2 (hlt ho))
  have body : ∀ {i : Nat} {o : Oper}, ops[i]? = some o →
      (o.after.toList.all (fun e => !Region.binds .any e || e.on < i) = true) ∧
      ((List.range ops.size).all (fun j => !befB bef i j || o.after.toList.any fun e => Region.binds .any e && (e.on == j || befB bef e.on j)) = true) ∧
      ((List.range ops.size).all (fun j => i == j || match ops[j]? with
        | some u => (match o.dst, u.dst with | some d, some d' => d != d' | _, _ => true) && (match u.dst with | some d => !(o.looksAt ops).contains d || befB bef i j || befB bef j i | none => true)
        | none => true) = true) := by
    intro i o ho
    have := h6 ho
    rw [ho] at this
    simp only [Bool.and_eq_true] at this
    exact ⟨this.1.1, this.1.2, this.2⟩
  refine ⟨by simpa using h2, ?_, ?_, ?_, ?_, ?_, ?_, ?_⟩
  · exact (pairwiseB_spec h3).imp fun h => by simpa using h
  · refine (pairwiseB_spec h4).imp fun {i j} h => ?_
    unfold pairOk at h
    simp only [Bool.and_eq_true, Bool.not_eq_true', Bool.or_eq_true] at h
    refine ⟨h.1, fun u hu he => ?_⟩
    rcases h.2 with h' | h'
    · rw [hu] at h'; simp [he] at h'
    · exact h'
  · intro i o ho e he hb
    have := List.all_eq_true.1 (body ho).1 e he
    simpa [hb] using this
  · intro i o j ho hj hb
    have := List.all_eq_true.1 (body ho).2.1 j (List.mem_range.2 hj)
    simp only [hb, Bool.not_true, Bool.false_or, List.any_eq_true] at this
    obtain ⟨e, he, hc⟩ := this
    simp only [Bool.and_eq_true, Bool.or_eq_true, beq_iff_eq] at hc
    exact ⟨e, he, hc⟩
  · intro i j o u d hij ho hu hd
    have := List.all_eq_true.1 (body ho).2.2 j (List.mem_range.2 (hlt hu))
    rw [hu] at this
    have hne : (i == j) = false := by simpa using hij
    simp only [hne, Bool.false_or, Bool.and_eq_true, hd] at this
    intro hd'
    rw [hd'] at this
    simp at this
  · intro i j o u d hij ho hu hd hr
    have := List.all_eq_true.1 (body ho).2.2 j (List.mem_range.2 (hlt hu))
    rw [hu] at this
    have hne : (i == j) = false := by simpa using hij
    simp only [hne, Bool.false_or, Bool.and_eq_true, hd] at this
    have h7 := this.2
    have hc : (o.looksAt ops).contains d = true := by simpa using hr
    simp only [hc, Bool.not_true, Bool.false_or, Bool.or_eq_true] at h7
    exact h7
  · intro i o d ho hd
    unfold okSmall at hs
    have := List.all_eq_true.1 hs o (Array.mem_toList_iff.2 (Array.mem_of_getElem? ho))
    rw [hd] at this
    simpa using this

/-! ## the temporaries along the chain -/
def dstOf (ops : Array Oper) (i : Nat) : Option Tmp := (ops[i]?).bind (·.dst)

theorem dstep_some {i : Nat} {s s' : DSt} {v : Value} (h : dstep P rec n ops bef base i s = some (.next v s')) : ∃ o, ops[i]? = some o ∧ s'.T = tput n s.T o.dst v := by
  unfold dstep at h
  split at h
  · cases h
  · rename_i o ho
    refine ⟨o, ho, ?_⟩
    split at h
    · cases h
    · simp only [Option.some.injEq, DRes.next.injEq] at h
      obtain ⟨rfl, rfl⟩ := h; rfl
    · split at h
      · split at h
        · split at h
          · split at h
            · simp only [Option.some.injEq, DRes.next.injEq] at h
              obtain ⟨rfl, rfl⟩ := h; rfl
            · cases h
          · cases h
        · split at h
          · split at h
            · split at h
              · simp only [Option.some.injEq, DRes.next.injEq] at h
                obtain ⟨rfl, rfl⟩ := h; rfl
              · cases h
            · cases h
          · split at h
            · simp only [Option.some.injEq, DRes.next.injEq] at h
              obtain ⟨rfl, rfl⟩ := h; rfl
            · simp only [Option.some.injEq, DRes.next.injEq] at h
              obtain ⟨rfl, rfl⟩ := h; rfl
            · simp only [Option.some.injEq, DRes.next.injEq] at h
              obtain ⟨rfl, rfl⟩ := h; rfl
            · split at h
              · simp only [Option.some.injEq, DRes.next.injEq] at h
                obtain ⟨rfl, rfl⟩ := h; rfl
              · cases h
              · cases h
            · cases h
            · cases h
      · cases h

theorem chain_T (hn : n < 2 ^ 20) {s f : DSt} {l : List Ent} (h : Chain P rec n ops bef base s l f) : ∀ {t : Tmp} {v : Value}, f.T.get t = some v →
    (∃ e ∈ l, dstOf ops e.i = some t ∧ t < n ∧ v = e.v) ∨ (s.T.get t = some v ∧ ∀ e ∈ l, ¬ (dstOf ops e.i = some t ∧ t < n)) := by
  induction h with
  | nil => intro t v hv; exact .inr ⟨hv, fun _ h => by simp at h⟩
  | @cons i s s' f u l hd hc ih =>
    intro t v hv
    rcases ih hv with ⟨e, he, h1, h2, h3⟩ | ⟨h1, h2⟩
    · exact .inl ⟨e, List.mem_cons_of_mem _ he, h1, h2, h3⟩
    · obtain ⟨o, ho, hT⟩ := dstep_some hd
      rw [hT, tput_get hn] at h1
      have hdst : dstOf ops i = o.dst := by simp [dstOf, ho]
      split at h1
      · rename_i hc'
        simp only [Option.some.injEq] at h1
        exact .inl ⟨_, List.mem_cons_self, by dsimp only; rw [hdst]; exact hc'.1, hc'.2, h1.symm⟩
      · rename_i hc'
        refine .inr ⟨h1, fun e he => ?_⟩
        rcases List.mem_cons.1 he with rfl | he
        · dsimp only; rw [hdst]; exact hc'
        · exact h2 e he

end
end Go.Ev

/- regions that draw their order: one step. -/
namespace Go.Ev

section
variable {P : Program} [Clean P] {rec : Rec} {n : Nat} {ops : Array Oper} {bef : Array Nat} {base : Nat}

/-- a performed operation that made one block -/
def ABlk (P : Program) (ops : Array Oper) (base : Nat) (e : Ent) (x : CB) : Prop :=
  ∃ o, ops[e.i]? = some o ∧ isA o.op = true ∧ cwanted ops e.s.T o = some true ∧ known e.s.T o = true ∧
    MakesOne (cop P o (rho e.s.T)) { e.s.C with next := base + e.i, lim := base + e.i + 1 } e.v x ∧ ∀ S ∈ e.s.st, S.get (base + e.i) = none

/-- how a step that doesn't act turns the canonical state -/
theorem dstep_quiet {i : Nat} {s s' : DSt} {v : Value} {o : Oper} (ho : ops[i]? = some o) (hE : isE P o = false) (h : dstep P rec n ops bef base i s = some (.next v s')) :
    s'.dfs = s.dfs ∧ s'.st = s.st ∧ s'.C.next = s.C.next ∧ s'.C.lim = s.C.lim ∧ s'.C.base = s.C.base ∧
    ((s'.C = s.C ∧ ((cwanted ops s.T o = some false ∧ v = undef) ∨
        (cwanted ops s.T o = some true ∧ known s.T o = true ∧ isA o.op = false ∧ isR P o.op = true ∧ stable P o s.T v (s.st.take (s.st.length - lowOf P ops bef i)) = true))) ∨
      ∃ x, ABlk P ops base ⟨i, s, v⟩ x ∧ ∀ b, s'.C.get b = if b = base + i then some x else s.C.get b) := by
  unfold dstep at h
  rw [ho] at h
  dsimp only at h
  split at h
  · cases h
  · rename_i hw
    simp only [Option.some.injEq, DRes.next.injEq] at h
    obtain ⟨rfl, rfl⟩ := h
    refine ⟨rfl, by simp [hE], rfl, rfl, rfl, .inl ⟨rfl, .inl ⟨hw, rfl⟩⟩⟩
  · rename_i hw
    split at h
    · rename_i hk
      split at h
      · rename_i hA
        split at h
        · rename_i u D hc
          split at h
          · rename_i hst
            simp only [Option.some.injEq, DRes.next.injEq] at h
            obtain ⟨rfl, rfl⟩ := h
            obtain ⟨v', x, e1, e2, e3⟩ := cop_A hA hc
            cases e1
            refine ⟨rfl, rfl, rfl, rfl, by rw [e2]; rfl, .inr ⟨x, ⟨o, ho, hA, hw, hk, e3, ?_⟩, ?_⟩⟩
            · intro S hS
              have := List.all_eq_true.1 hst S hS
              simpa using this
            · intro b
              have hb : base + i < bnd := by have := e3.room; dsimp only at this; omega
              rw [e2]
              have := CS.get_put (C := { s.C with next := base + i, lim := base + i + 1 }) (x := x) hb b
              simpa [CS.get_def, CS.put_def, CS.addNew] using this
          · cases h
        · cases h
      · rename_i hA
        split at h
        · rename_i hR
          split at h
          · split at h
            · rename_i hst
              simp only [Option.some.injEq, DRes.next.injEq] at h
              obtain ⟨rfl, rfl⟩ := h
              exact ⟨rfl, rfl, rfl, rfl, rfl, .inl ⟨rfl, .inr ⟨hw, hk, by simpa using hA, hR, hst⟩⟩⟩
            · cases h
          · cases h
        · rename_i hR
          simp [isE, hA, hR] at hE
    · cases h

/-- an operation that is done, and comes to a value -/
inductive EvV (P : Program) (rec : Rec) (o : Oper) (ρ : Operand → Value) (C : CS) : Value → List (FuncId × Array Value × Array Value) → CS → Prop
  | val {v : Value} {D : CS} (h : cop P o ρ C = some (.val v, D)) : EvV P rec o ρ C v [] D
  | skip {D : CS} (h : cop P o ρ C = some (.skip, D)) : EvV P rec o ρ C undef [] D
  | dfr {f : FuncId} {a c : Array Value} {D : CS} (h : cop P o ρ C = some (.dfr f a c, D)) : EvV P rec o ρ C undef [(f, a, c)] D
  | call {f : FuncId} {args : Array Value} {v : Value} {D E : CS} (h : cop P o ρ C = some (.ent f args, D)) (h' : rec f args D = some (.ret v, E)) : EvV P rec o ρ C v [] E

/-- an operation that panics -/
inductive EvP (P : Program) (rec : Rec) (o : Oper) (ρ : Operand → Value) (C : CS) : Value → CS → Prop
  | pnc {v : Value} {D : CS} (h : cop P o ρ C = some (.pnc v, D)) : EvP P rec o ρ C v D
  | call {f : FuncId} {args : Array Value} {v : Value} {D E : CS} (h : cop P o ρ C = some (.ent f args, D)) (h' : rec f args D = some (.pnc v, E)) : EvP P rec o ρ C v E

section
variable {β : Ren} {C : CS} {w : World}

theorem EvV.upon {o : Oper} {ρ : Operand → Value} {a : Act} {v : Value} {dl : List (FuncId × Array Value × Array Value)} {D : CS} {K : Act → World → Prop} {Q : Exit → Act → World → Prop} (hrec : RecOk P rec) (hE : EvV P rec o ρ C v dl D)
    (hops : ∀ x ∈ o.op.operands, VRel β (ρ x) (a.eval x)) (hW : WRel β C w)
    (hK : ∀ β' v' a' w', Ext β C w β' D w' → VRel β' v v' → a'.tmps = (a.put o.dst v').tmps → (∀ dfs, DRel β dfs a.defers → DRel β' (dl ++ dfs) a'.defers) → K a' w') : o.wp P a w K Q := by
  unfold Oper.wp
  have putd : ∀ (a : Act) (d : Option Tmp) (u : Value), (a.put d u).defers = a.defers := fun a d u => by cases d <;> rfl
  cases hE with
  | val h =>
    have hs := cop_sim hW hops h
    generalize hres : (execOp a.eval o).run P w = res at hs
    cases res with
    | ok nx w' =>
      obtain ⟨β', hE, hN⟩ := hs
      cases hN with
      | val hv => exact hK β' _ _ _ hE hv rfl fun dfs hd => by rw [putd]; exact hd.mono hE.le
    | halt x w' =>
      cases x with
      | panic v' => obtain ⟨_, _, _, e, _⟩ := hs; cases e
      | _ => exact hs.elim
  | skip h =>
    have hs := cop_sim hW hops h
    generalize hres : (execOp a.eval o).run P w = res at hs
    cases res with
    | ok nx w' =>
      obtain ⟨β', hE, hN⟩ := hs
      cases hN with
      | skip => exact hK β' _ _ _ hE .undef rfl fun dfs hd => by rw [putd]; exact hd.mono hE.le
    | halt x w' =>
      cases x with
      | panic v' => obtain ⟨_, _, _, e, _⟩ := hs; cases e
      | _ => exact hs.elim
  | dfr h =>
    have hs := cop_sim hW hops h
    generalize hres : (execOp a.eval o).run P w = res at hs
    cases res with
    | ok nx w' =>
      obtain ⟨β', hE, hN⟩ := hs
      cases hN with
      | dfr g h1 h2 =>
        refine hK β' _ _ _ hE .undef (by cases o.dst <;> rfl) fun dfs hd => ?_
        rw [putd]
        exact .cons _ h1 h2 (hd.mono hE.le)
    | halt x w' =>
      cases x with
      | panic v' => obtain ⟨_, _, _, e, _⟩ := hs; cases e
      | _ => exact hs.elim
  | call h h' =>
    have hs := cop_sim hW hops h
    generalize hres : (execOp a.eval o).run P w = res at hs
    cases res with
    | ok nx w' =>
      obtain ⟨β', hE, hN⟩ := hs
      cases hN with
      | ent f h1 =>
        refine (hrec _ _ _ _ _ h' β' w' _ hE.rel h1).mono ?_
        rintro e w'' ⟨β'', hE', hR⟩
        cases e with
        | returned v' => exact hK β'' _ _ _ (hE.trans hE') hR rfl fun dfs hd => by rw [putd]; exact hd.mono (hE.trans hE').le
        | panicked ch => exact hR.elim
        | outgrown => exact hR.elim
    | halt x w' =>
      cases x with
      | panic v' => obtain ⟨_, _, _, e, _⟩ := hs; cases e
      | _ => exact hs.elim

theorem EvP.upon {o : Oper} {ρ : Operand → Value} {a : Act} {v : Value} {D : CS} {K : Act → World → Prop} {Q : Exit → Act → World → Prop} (hrec : RecOk P rec) (hE : EvP P rec o ρ C v D)
    (hops : ∀ x ∈ o.op.operands, VRel β (ρ x) (a.eval x)) (hW : WRel β C w)
    (hQ : ∀ β' e w', Ext β C w β' D w' → XR β' (.pnc v) (.panic [e]) → Q (.panic [e]) a w') : o.wp P a w K Q := by
  unfold Oper.wp
  cases hE with
  | pnc h =>
    have hs := cop_sim hW hops h
    generalize hres : (execOp a.eval o).run P w = res at hs
    cases res with
    | ok nx w' => obtain ⟨β', hE, hN⟩ := hs; cases hN
    | halt x w' =>
      cases x with
      | panic v' =>
        obtain ⟨rfl, rfl, u, e, hu⟩ := hs
        cases e
        exact hQ β _ _ (.refl hW) ⟨hu, rfl, rfl⟩
      | _ => exact hs.elim
  | call h h' =>
    have hs := cop_sim hW hops h
    generalize hres : (execOp a.eval o).run P w = res at hs
    cases res with
    | ok nx w' =>
      obtain ⟨β', hE, hN⟩ := hs
      cases hN with
      | ent f h1 =>
        refine (hrec _ _ _ _ _ h' β' w' _ hE.rel h1).mono ?_
        rintro e w'' ⟨β'', hE', hR⟩
        cases e with
        | returned v' => exact hR.elim
        | panicked ch =>
          cases ch with
          | nil => exact hR.elim
          | cons x xs =>
            cases xs with
            | nil => exact hQ β'' _ _ (hE.trans hE') hR
            | cons y ys => exact hR.elim
        | outgrown => exact hR.elim
    | halt x w' =>
      cases x with
      | panic v' => obtain ⟨_, _, _, e, _⟩ := hs; cases e
      | _ => exact hs.elim
end

/-- how a step that acts turns it -/
theorem dstep_acts {i : Nat} {s s' : DSt} {v : Value} {o : Oper} (ho : ops[i]? = some o) (hE : isE P o = true) (h : dstep P rec n ops bef base i s = some (.next v s')) :
    s'.st = s'.C :: s.st ∧
    ((cwanted ops s.T o = some false ∧ v = undef ∧ s'.C = s.C ∧ s'.dfs = s.dfs) ∨
      (cwanted ops s.T o = some true ∧ known s.T o = true ∧ ∃ dl, EvV P rec o (rho s.T) s.C v dl s'.C ∧ s'.dfs = dl ++ s.dfs)) := by
  have hnA : isA o.op = false := by
    unfold isE at hE; simp at hE; exact hE.1
  have hnR : isR P o.op = false := by
    unfold isE at hE; simp at hE; exact hE.2
  unfold dstep at h
  rw [ho] at h
  dsimp only at h
  split at h
  · cases h
  · rename_i hw
    simp only [Option.some.injEq, DRes.next.injEq] at h
    obtain ⟨rfl, rfl⟩ := h
    exact ⟨by simp [hE], .inl ⟨hw, rfl, rfl, rfl⟩⟩
  · rename_i hw
    split at h
    · rename_i hk
      rw [hnA, hnR] at h
      simp only [Bool.false_eq_true, if_false] at h
      split at h
      · rename_i u D hc
        simp only [Option.some.injEq, DRes.next.injEq] at h
        obtain ⟨rfl, rfl⟩ := h
        exact ⟨rfl, .inr ⟨hw, hk, _, .val hc, rfl⟩⟩
      · rename_i D hc
        simp only [Option.some.injEq, DRes.next.injEq] at h
        obtain ⟨rfl, rfl⟩ := h
        exact ⟨rfl, .inr ⟨hw, hk, _, .skip hc, rfl⟩⟩
      · rename_i f args cap D hc
        simp only [Option.some.injEq, DRes.next.injEq] at h
        obtain ⟨rfl, rfl⟩ := h
        exact ⟨rfl, .inr ⟨hw, hk, _, .dfr hc, rfl⟩⟩
      · rename_i f args D hc
        split at h
        · rename_i u E hr
          simp only [Option.some.injEq, DRes.next.injEq] at h
          obtain ⟨rfl, rfl⟩ := h
          exact ⟨rfl, .inr ⟨hw, hk, _, .call hc hr, rfl⟩⟩
        · cases h
        · cases h
      · cases h
      · cases h
    · cases h

/-- where it panics -/
theorem dstep_pnc {i : Nat} {s : DSt} {v : Value} {D : CS} {o : Oper} (ho : ops[i]? = some o) (h : dstep P rec n ops bef base i s = some (.pnc v D)) :
    isE P o = true ∧ cwanted ops s.T o = some true ∧ known s.T o = true ∧ EvP P rec o (rho s.T) s.C v D := by
  unfold dstep at h
  rw [ho] at h
  dsimp only at h
  split at h
  · cases h
  · cases h
  · rename_i hw
    split at h
    · rename_i hk
      split at h
      · split at h
        · split at h <;> cases h
        · cases h
      · rename_i hA
        split at h
        · split at h
          · split at h <;> cases h
          · cases h
        · rename_i hR
          refine ⟨by simp [isE, hA, hR], hw, hk, ?_⟩
          split at h
          · cases h
          · cases h
          · cases h
          · rename_i f args E hc
            split at h
            · cases h
            · rename_i u F hr
              simp only [Option.some.injEq, DRes.pnc.injEq] at h
              obtain ⟨rfl, rfl⟩ := h
              exact .call hc hr
            · cases h
          · rename_i u E hc
            simp only [Option.some.injEq, DRes.pnc.injEq] at h
            obtain ⟨rfl, rfl⟩ := h
            exact .pnc hc
          · cases h
    · cases h

/-- a stretch without an operation that acts -/
theorem chain_quiet {s f : DSt} {l : List Ent} (h : Chain P rec n ops bef base s l f) (hq : ∀ e ∈ l, ∀ o, ops[e.i]? = some o → isE P o = false) :
    f.dfs = s.dfs ∧ f.st = s.st ∧ f.C.next = s.C.next ∧ f.C.lim = s.C.lim ∧ f.C.base = s.C.base ∧
    ∀ b x, f.C.get b = some x → s.C.get b = some x ∨ ∃ e ∈ l, b = base + e.i ∧ ABlk P ops base e x := by
  induction h with
  | nil => exact ⟨rfl, rfl, rfl, rfl, rfl, fun b x h => .inl h⟩
  | @cons i s s' f v l hd hc ih =>
    obtain ⟨o, ho, _⟩ := dstep_some hd
    obtain ⟨h1, h2, h3, h4, h5, h6⟩ := ih fun e he => hq e (List.mem_cons_of_mem _ he)
    obtain ⟨g1, g2, g3, g4, g5, g6⟩ := dstep_quiet ho (hq _ List.mem_cons_self o ho) hd
    refine ⟨h1.trans g1, h2.trans g2, h3.trans g3, h4.trans g4, h5.trans g5, fun b x hb => ?_⟩
    rcases h6 b x hb with h7 | ⟨e, he, h7, h8⟩
    · rcases g6 with ⟨g7, _⟩ | ⟨y, g7, g8⟩
      · exact .inl (g7 ▸ h7)
      · rw [g8] at h7
        split at h7
        · rename_i hbi
          cases h7
          exact .inr ⟨_, List.mem_cons_self, hbi, g7⟩
        · exact .inl h7
    · exact .inr ⟨e, List.mem_cons_of_mem _ he, h7, h8⟩

end
end Go.Ev

/- regions that draw their order: the invariant, and what it gives at an operation that is ready. -/
namespace Go.Ev

section
variable {P : Program} [Clean P] {rec : Rec} {n : Nat} {ops : Array Oper} {bef : Array Nat} {base : Nat}

/-- what is known of a temporary when the operations in X are done -/
def TX (ops : Array Oper) (n : Nat) (T0 : Tr Value) (lg : List Ent) (X : Nat → Bool) (t : Tmp) (v : Value) : Prop :=
  (∃ e ∈ lg, X e.i = true ∧ dstOf ops e.i = some t ∧ t < n ∧ v = e.v) ∨ (T0.get t = some v ∧ ∀ e ∈ lg, X e.i = true → ¬ (dstOf ops e.i = some t ∧ t < n))

structure Glob (P : Program) (rec : Rec) (n : Nat) (ops : Array Oper) (bef : Array Nat) (base : Nat) (ord : List Nat) (s0 fin : DSt) (lg : List Ent) : Prop where
  ok : DOk P n ops bef ord
  sub : (lg.map (·.i)).Sublist ord
  chain : Chain P rec n ops bef base s0 lg fin
  hn : n < 2 ^ 20
  st0 : s0.st = [s0.C]
  next0 : base + ops.size ≤ s0.C.next

structure Core (P : Program) (rec : Rec) (n : Nat) (ops : Array Oper) (bef : Array Nat) (base : Nat) (β0 : Ren) (C0 : CS) (w0 : World) (s0 fin : DSt) (lg : List Ent) (X : Nat → Bool) (a : Act) (w : World) (β : Ren) (lA lB : List Ent) (s : DSt) : Prop where
  split : lg = lA ++ lB
  cA : Chain P rec n ops bef base s0 lA s
  cB : Chain P rec n ops bef base s lB fin
  inA : ∀ e ∈ lA, X e.i = true
  noE : ∀ e ∈ lB, ∀ o, ops[e.i]? = some o → isE P o = true → X e.i = false
  ext : Ext β0 C0 w0 β s.C w
  hd : ∃ r, s.st = s.C :: r
  lastE : ∀ l e, lA = l ++ [e] → ∃ o, ops[e.i]? = some o ∧ isE P o = true
  nx : base + ops.size ≤ s.C.next
  tm : ∀ t v, TX ops n s0.T lg X t v → VRel β v (a.tmps.getD t undef)
  sz : a.tmps.size = n
  df : DRel β s.dfs a.defers
  early : ∀ e ∈ lB, X e.i = true → ∀ x, ABlk P ops base e x → ∃ bi, β (base + e.i) = some bi ∧ BRel β w bi x
  late : ∀ i, i < ops.size → X i = false → β (base + i) = none
  closedX : ∀ i o, ops[i]? = some o → X i = true → ∀ e ∈ o.after.toList, Region.binds .any e = true → X e.on = true
  subX : ∀ i, X i = true → ∃ e ∈ lg, e.i = i

variable {ord : List Nat} {s0 fin : DSt} {lg : List Ent} {β0 β : Ren} {C0 : CS} {w0 w : World} {X : Nat → Bool} {a : Act} {lA lB : List Ent} {s : DSt}

theorem lt_of_some {i : Nat} {o : Oper} (ho : ops[i]? = some o) : i < ops.size := by
  rcases Nat.lt_or_ge i ops.size with h' | h'
  · exact h'
  · rw [Array.getElem?_eq_none h'] at ho; cases ho

theorem Glob.nodup (G : Glob P rec n ops bef base ord s0 fin lg) : (lg.map (·.i)).Pairwise (fun i j => i ≠ j) := G.ok.nodup.sublist G.sub
theorem Glob.pair (G : Glob P rec n ops bef base ord s0 fin lg) : (lg.map (·.i)).Pairwise (fun i j => befB bef i j = false ∧ (∀ u : Oper, ops[j]? = some u → isE P u = true → befB bef j i = true)) := G.ok.pair.sublist G.sub
theorem Glob.lt (G : Glob P rec n ops bef base ord s0 fin lg) {e : Ent} (he : e ∈ lg) : e.i < ops.size := G.ok.lt _ (G.sub.subset (List.mem_map.2 ⟨e, he, rfl⟩))

theorem pairwise_split {R : Nat → Nat → Prop} {l1 l2 : List Ent} {e : Ent} (h : ((l1 ++ e :: l2).map (·.i)).Pairwise R) : (∀ u ∈ l1, R u.i e.i) ∧ (∀ u ∈ l2, R e.i u.i) := by
  simp only [List.map_append, List.map_cons] at h
  rw [List.pairwise_append] at h
  obtain ⟨_, h2, h3⟩ := h
  refine ⟨fun u hu => h3 _ (List.mem_map.2 ⟨u, hu, rfl⟩) _ List.mem_cons_self, fun u hu => ?_⟩
  rw [List.pairwise_cons] at h2
  exact h2.1 _ (List.mem_map.2 ⟨u, hu, rfl⟩)

/-- the operations that come before one whose direct ones are done are done -/
theorem bef_done (ok : DOk P n ops bef ord) (hX : ∀ i o, ops[i]? = some o → X i = true → ∀ e ∈ o.after.toList, Region.binds .any e = true → X e.on = true) (hXs : ∀ i, X i = true → i < ops.size) :
    ∀ (N i : Nat) (o : Oper), i < N → ops[i]? = some o → (∀ e ∈ o.after.toList, Region.binds .any e = true → X e.on = true) → ∀ k, k < ops.size → befB bef i k = true → X k = true := by
  intro N
  induction N with
  | zero => intro i o h; omega
  | succ N ih =>
    intro i o hi ho hr k hk hb
    obtain ⟨e, he, hbi, hc⟩ := ok.closed i o k ho hk hb
    have hon := hr e he hbi
    rcases hc with hc | hc
    · rw [← hc]; exact hon
    · have hlt := ok.edge i o ho e he hbi
      have hs := hXs _ hon
      have hoo : ops[e.on]? = some ops[e.on] := by simp [hs]
      exact ih e.on _ (by omega) hoo (hX _ _ hoo hon) k hk hc

/-- an operation of the second part that is ready: what it reads is known -/
structure Ready (P : Program) (n : Nat) (ops : Array Oper) (s0 : DSt) (lg : List Ent) (X : Nat → Bool) (o : Oper) (T : Tr Value) : Prop where
  reads : ∀ t v, t ∈ o.looksAt ops → T.get t = some v → TX ops n s0.T lg X t v

theorem ready_reads (G : Glob P rec n ops bef base ord s0 fin lg) (hX : ∀ i o, ops[i]? = some o → X i = true → ∀ e ∈ o.after.toList, Region.binds .any e = true → X e.on = true) (hXs : ∀ i, X i = true → ∃ e ∈ lg, e.i = i)
    {l1 l2 : List Ent} {i : Nat} {σ : DSt} {o : Oper} (hl : lg = l1 ++ l2) (hc1 : Chain P rec n ops bef base s0 l1 σ) (ho : ops[i]? = some o) (hnot : X i = false) (hr : ∀ e ∈ o.after.toList, Region.binds .any e = true → X e.on = true)
    (h1 : ∀ u ∈ l1, u.i ≠ i ∧ befB bef u.i i = false) (h2 : ∀ u ∈ l2, u.i ≠ i → befB bef i u.i = false) : Ready P n ops s0 lg X o σ.T := by
  have hXlt : ∀ i, X i = true → i < ops.size := fun j hj => by
    obtain ⟨e, he, rfl⟩ := hXs j hj; exact G.lt he
  have hbd := bef_done G.ok hX hXlt (i + 1) i o (by omega) ho hr
  have anti : ∀ j, X j = true → befB bef j i = true → False := by
    intro j hj hb
    have hjl := hXlt j hj
    have hjo : ops[j]? = some ops[j] := by simp [hjl]
    have := bef_done G.ok hX hXlt (j + 1) j _ (by omega) hjo (hX j _ hjo hj) i (lt_of_some ho) hb
    rw [hnot] at this; cases this
  constructor
  intro t v ht hv
  rcases chain_T G.hn hc1 hv with ⟨e, he, hd, hlt, hve⟩ | ⟨hT, hno⟩
  · obtain ⟨hne, hb1⟩ := h1 e he
    have hel : e ∈ lg := by rw [hl]; simp [he]
    have hei := G.lt hel
    have heo : ops[e.i]? = some ops[e.i] := by simp [hei]
    have hdu : ops[e.i].dst = some t := by simpa [dstOf, heo] using hd
    rcases G.ok.reads i e.i o _ t (Ne.symm hne) ho heo hdu ht with h3 | h3
    · exact .inl ⟨e, hel, hbd e.i hei h3, hd, hlt, hve⟩
    · rw [hb1] at h3; cases h3
  · refine .inr ⟨hT, fun e he hXe hd => ?_⟩
    have hei := G.lt he
    have heo : ops[e.i]? = some ops[e.i] := by simp [hei]
    have hne : e.i ≠ i := by intro h; rw [h, hnot] at hXe; cases hXe
    rw [hl] at he
    rcases List.mem_append.1 he with he | he
    · exact hno e he hd
    · have hdu : ops[e.i].dst = some t := by simpa [dstOf, heo] using hd.1
      rcases G.ok.reads i e.i o _ t (Ne.symm hne) ho heo hdu ht with h3 | h3
      · rw [h2 e he hne] at h3; cases h3
      · exact anti e.i hXe h3

/-- what is read is related -/
theorem ready_rel {o : Oper} {T : Tr Value} (hR : Ready P n ops s0 lg X o T) (htm : ∀ t v, TX ops n s0.T lg X t v → VRel β v (a.tmps.getD t undef)) :
    (∀ b, cwanted ops T o = some b → Region.wanted o (yielded ops a.tmps) = b) ∧ (known T o = true → ∀ x ∈ o.op.operands, VRel β (rho T x) (a.eval x)) := by
  have get : ∀ t v, t ∈ o.looksAt ops → T.get t = some v → VRel β v (a.tmps.getD t undef) := fun t v h1 h2 => htm t v (hR.reads t v h1 h2)
  constructor
  · intro b hc
    unfold cwanted at hc
    unfold Region.wanted
    split at hc
    · rename_i hg
      rw [hg]; simpa using hc
    · rename_i j want hg
      rw [hg]
      dsimp only
      split at hc
      · rename_i d hd
        have hmem : d ∈ o.looksAt ops := by simp [Oper.looksAt, hg, hd]
        unfold yielded
        rw [hd]
        simp only [Option.bind_some]
        split at hc
        · rename_i u hu
          have := get d _ hmem hu
          rw [Array.getD_eq_getD_getElem?] at this
          cases hx : a.tmps[d]? with
          | none => rw [hx] at this; simp only [Option.getD_none] at this; unfold Go.undef at this; cases this
          | some x =>
            rw [hx] at this; simp only [Option.getD_some] at this
            cases this
            simp only [Option.some.injEq] at hc; subst hc
            cases u <;> cases want <;> rfl
        · rename_i vs hu
          simp only [Option.some.injEq] at hc; subst hc
          have := get d _ hmem hu
          rw [Array.getD_eq_getD_getElem?] at this
          cases hx : a.tmps[d]? with
          | none => rfl
          | some x =>
            rw [hx] at this; simp only [Option.getD_some] at this
            cases this; rfl
        · cases hc
      · cases hc
  · intro hk x hx
    unfold known at hk
    rw [Array.all_eq_true] at hk
    obtain ⟨i, hi, e⟩ := Array.mem_iff_getElem.1 hx
    have hs := hk i hi
    rw [e] at hs
    unfold rho
    cases x with
    | tmp t =>
      simp only [opd] at hs ⊢
      cases ht : T.get t with
      | none => rw [ht] at hs; cases hs
      | some v =>
        simp only [Option.getD_some]
        refine get t v ?_ ht
        simp only [Oper.looksAt, List.mem_append, List.mem_filterMap]
        exact .inl ⟨.tmp t, by simpa using hx, rfl⟩
    | const v =>
      simp only [opd] at hs ⊢
      split at hs
      · rename_i hc
        rw [if_pos hc]; exact .of_closed hc
      · cases hs
    | func f => exact .func f .nil .nil
    | global g => cases hs

/-- the temporaries behind one more operation -/
theorem TX_put (G : Glob P rec n ops bef base ord s0 fin lg) {e : Ent} {o : Oper} (he : e ∈ lg) (ho : ops[e.i]? = some o) {t : Tmp} {v : Value} (h : TX ops n s0.T lg (fun j => X j || j == e.i) t v) :
    (o.dst = some t ∧ t < n ∧ v = e.v) ∨ (¬ (o.dst = some t ∧ t < n) ∧ TX ops n s0.T lg X t v) := by
  have uniq : ∀ u ∈ lg, u.i = e.i → u = e := by
    intro u hu hi
    have hnd := G.nodup
    have : ∀ (l : List Ent), (l.map (·.i)).Pairwise (fun i j => i ≠ j) → u ∈ l → e ∈ l → u = e := by
      intro l
      induction l with
      | nil => intro _ h; simp at h
      | cons x xs ih =>
        intro hp h1 h2
        rw [List.map_cons, List.pairwise_cons] at hp
        rcases List.mem_cons.1 h1 with e1 | e1
        · rcases List.mem_cons.1 h2 with e2 | e2
          · rw [e1, e2]
          · exact absurd (by rw [← e1]; exact hi) (hp.1 _ (List.mem_map.2 ⟨e, e2, rfl⟩))
        · rcases List.mem_cons.1 h2 with e2 | e2
          · exact absurd (by rw [← e2]; exact hi.symm) (hp.1 _ (List.mem_map.2 ⟨u, e1, rfl⟩))
          · exact ih hp.2 e1 e2
    exact this lg hnd hu he
  have hdo : dstOf ops e.i = o.dst := by simp [dstOf, ho]
  rcases h with ⟨u, hu, hXu, hd, hlt, hv⟩ | ⟨hT, hno⟩
  · by_cases hi : u.i = e.i
    · have := uniq u hu hi; subst this
      exact .inl ⟨by rw [← hdo]; exact hd, hlt, hv⟩
    · have hXu' : X u.i = true := by
        simp only [Bool.or_eq_true, beq_iff_eq] at hXu
        rcases hXu with h | h
        · exact h
        · exact absurd h hi
      refine .inr ⟨fun hc => ?_, .inl ⟨u, hu, hXu', hd, hlt, hv⟩⟩
      have hul := G.lt hu
      have huo : ops[u.i]? = some ops[u.i] := by simp [hul]
      exact G.ok.dsts e.i u.i o _ t (Ne.symm hi) ho huo hc.1 (by simpa [dstOf, huo] using hd)
  · refine .inr ⟨fun hc => ?_, .inr ⟨hT, fun u hu hXu => hno u hu (by simp [hXu])⟩⟩
    exact hno e he (by simp) ⟨by rw [hdo]; exact hc.1, hc.2⟩

end
end Go.Ev

/- regions that draw their order: the steps. -/
namespace Go.Ev

section
variable {P : Program} [Clean P] {rec : Rec} {n : Nat} {ops : Array Oper} {bef : Array Nat} {base : Nat}
variable {ord : List Nat} {s0 fin : DSt} {lg : List Ent} {β0 β : Ren} {C0 : CS} {w0 w : World} {X : Nat → Bool} {a : Act} {lA lB : List Ent} {s : DSt}

def actsAt (P : Program) (ops : Array Oper) (i : Nat) : Bool := ((ops[i]?).map (isE P)).getD false

theorem chain_st {s f : DSt} {l : List Ent} (h : Chain P rec n ops bef base s l f) : ∃ pre, f.st = pre ++ s.st ∧ pre.length = l.countP fun e => actsAt P ops e.i := by
  induction h with
  | nil => exact ⟨[], rfl, rfl⟩
  | @cons i s s' f v l hd hc ih =>
    obtain ⟨pre, h1, h2⟩ := ih
    obtain ⟨o, ho, _⟩ := dstep_some hd
    have hact : actsAt P ops i = isE P o := by simp [actsAt, ho]
    cases hE : isE P o with
    | false =>
      obtain ⟨_, h3, _⟩ := dstep_quiet ho hE hd
      refine ⟨pre, by rw [h1, h3], ?_⟩
      rw [List.countP_cons_of_neg (by simp [hact, hE]), h2]
    | true =>
      obtain ⟨h3, _⟩ := dstep_acts ho hE hd
      refine ⟨pre ++ [s'.C], by rw [h1, h3]; simp, ?_⟩
      rw [List.countP_cons_of_pos (by simp [hact, hE])]
      simp [h2]

theorem nodup_len : ∀ {l₁ l₂ : List Nat}, l₁.Pairwise (fun i j => i ≠ j) → (∀ x ∈ l₁, x ∈ l₂) → l₁.length ≤ l₂.length
  | [], _, _, _ => Nat.zero_le _
  | x :: xs, l₂, hp, h => by
    rw [List.pairwise_cons] at hp
    have hx := h x (by simp)
    have := nodup_len (l₂ := l₂.erase x) hp.2 fun y hy => by
      have hne := hp.1 y hy
      exact (List.mem_erase_of_ne (Ne.symm hne)).2 (h y (by simp [hy]))
    rw [List.length_erase_of_mem hx] at this
    have hpos : 0 < l₂.length := List.length_pos_of_mem hx
    simp only [List.length_cons]; omega

theorem low_le {i : Nat} (h : ∀ j, j < ops.size → befB bef i j = true → actsAt P ops j = true → ∃ e ∈ lA, e.i = j) : lowOf P ops bef i ≤ lA.countP fun e => actsAt P ops e.i := by
  unfold lowOf
  rw [List.countP_eq_length_filter, List.countP_eq_length_filter, ← List.length_map (f := fun e : Ent => e.i) (as := lA.filter _)]
  refine nodup_len ?_ ?_
  · exact (List.nodup_range.filter _)
  · intro j hj
    simp only [List.mem_filter, List.mem_range, Bool.and_eq_true] at hj
    obtain ⟨e, he, rfl⟩ := h j hj.1 hj.2.1 hj.2.2
    exact List.mem_map.2 ⟨e, List.mem_filter.2 ⟨he, hj.2.2⟩, rfl⟩

/-- the memory at the head is met by each operation of the second part -/
theorem Core.stage (K : Core P rec n ops bef base β0 C0 w0 s0 fin lg X a w β lA lB s) {e : Ent} (he : e ∈ lB) : s.C ∈ e.s.st := by
  obtain ⟨u, v, huv⟩ := List.append_of_mem he
  have hc := K.cB
  rw [huv] at hc
  obtain ⟨m, h1, h2⟩ := hc.split
  obtain ⟨h3, _⟩ := h2.head
  obtain ⟨pre, h4, _⟩ := chain_st h1
  obtain ⟨r, h5⟩ := K.hd
  rw [h3, h4, h5]; simp

/-- the name of a block that isn't made yet is none's -/
theorem Core.unborn (K : Core P rec n ops bef base β0 C0 w0 s0 fin lg X a w β lA lB s) {e : Ent} (he : e ∈ lB) {x : CB} (hx : ABlk P ops base e x) : s.C.get (base + e.i) = none := by
  obtain ⟨o, _, _, _, _, _, h⟩ := hx
  exact h _ (K.stage he)

/-- blocks that were made early stand, whatever happens to what is live -/
theorem early_stays (hW : WRel β s.C w) {b : Nat} {bi : BI} {x : CB} (hb : β b = some bi) (hnone : s.C.get b = none) (hx : BRel β w bi x) {β' : Ren} {w' : World} (hle : β.Le β')
    (hfr : ∀ p, p < w.heap.size → (∀ c j, β c = some j → j.blk = p → ¬ s.C.Live c) → w'.heap[p]? = w.heap[p]?) : BRel β' w' bi x := by
  refine hx.other hle (hfr _ (hW.lt b bi hb) fun c j hc hj hl => ?_)
  obtain ⟨_, y, hy, hyd⟩ := hl
  rcases hW.inj c b j bi hc hb hj with h1 | h1 | h1
  · rw [h1, hnone] at hy; cases hy
  · rw [h1] at hy; exact hyd (Option.some.inj hy).symm
  · rw [hnone] at h1; cases h1

/-- an early operation turns the memory at its own reserved name alone -/
theorem reserved_step {β1 : Ren} {C0 : CS} {v : Value} {x : CB} {m i N : Nat} {o : Oper} {ρ : Operand → Value} (hE : Ext β0 C0 w0 β s.C w) (hm : C0.next ≤ m + i) (hi : i < N) (hN : m + N ≤ s.C.next) (hnone : s.C.get (m + i) = none) (hb : β (m + i) = none)
    (hM : MakesOne (cop P o ρ) { s.C with next := m + i, lim := m + i + 1 } v x) {w' : World} (hA : Ext β { s.C with next := m + i, lim := m + i + 1 } w β1 (({ s.C with next := m + i, lim := m + i + 1 } : CS).addNew x) w') : Ext β0 C0 w0 β1 s.C w' := by
  have hbn : m + i < bnd := by have := hM.room; dsimp only at this; omega
  have hget : ∀ b, (({ s.C with next := m + i, lim := m + i + 1 } : CS).addNew x).get b = if b = m + i then some x else s.C.get b := by
    intro b
    have := CS.get_put (C := { s.C with next := m + i, lim := m + i + 1 }) (x := x) hbn b
    simpa [CS.get_def, CS.put_def, CS.addNew] using this
  have hlive : ∀ b, ({ s.C with next := m + i, lim := m + i + 1 } : CS).Live b ↔ s.C.Live b := fun b => Iff.rfl
  have hnames : ∀ b j, β1 b = some j → β b = some j ∨ b = m + i := by
    intro b j hj
    rcases hA.names b j hj with h | ⟨h1, h2⟩
    · exact .inl h
    · right
      have h1' : m + i ≤ b := h1
      have h2' : b < m + i + 1 := h2
      omega
  refine ⟨hE.le.trans hA.le, ⟨?_, hA.rel.lt, ?_, ?_⟩, Nat.le_trans hE.size hA.size, ?_, ?_, ?_, hE.next, ?_, hE.lim, hE.base, hA.tape.trans hE.tape, hA.os.trans hE.os, hA.out.trans hE.out⟩
  · intro b j y hj hy
    have hne : b ≠ m + i := by intro e; rw [e, hnone] at hy; cases hy
    exact hA.rel.rel b j y hj (by rw [hget, if_neg hne]; exact hy)
  · intro b c j k hj hk hjk
    rcases hA.rel.inj b c j k hj hk hjk with h | h | h
    · exact .inl h
    · rw [hget] at h
      split at h
      · exact absurd (Option.some.inj h) hM.live
      · exact .inr (.inl h)
    · rw [hget] at h
      split at h
      · exact absurd (Option.some.inj h) hM.live
      · exact .inr (.inr h)
  · intro b h1 h2
    cases hj : β1 b with
    | none => rfl
    | some j =>
      rcases hnames b j hj with h | h
      · rw [hE.rel.fresh b h1 h2] at h; cases h
      · omega
  · intro p hp hb'
    rw [hA.frame p (Nat.lt_of_lt_of_le hp hE.size) ?_, hE.frame p hp hb']
    intro c j hc hj hl
    rcases hE.old c j hc with h1 | h1 | ⟨d, k, h1, h2, h3⟩
    · exact hE.dead c j h1 (hb' c j h1 hj) hl
    · omega
    · exact hb' d k h1 (h3 ▸ hj) h2
  · intro b j hj
    rcases hA.old b j hj with h1 | h1 | ⟨c, k, h1, h2, h3⟩
    · exact hE.old b j h1
    · exact .inr (.inl (Nat.le_trans hE.size h1))
    · rcases hE.old c k h1 with h4 | h4 | ⟨d, l, h4, h5, h6⟩
      · by_cases hl : C0.Live c
        · exact .inr (.inr ⟨c, k, h4, hl, h3⟩)
        · exact absurd h2 (hE.dead c k h4 hl)
      · exact .inr (.inl (h3 ▸ h4))
      · exact .inr (.inr ⟨d, l, h4, h5, h3.trans h6⟩)
  · exact fun b j hj hd => hE.dead b j hj hd
  · intro b j hj
    rcases hnames b j hj with h | h
    · exact hE.names b j h
    · have hnx := hE.next
      exact .inr ⟨by omega, by omega⟩

/-- the blocks of a stretch that doesn't act, all made: they are the canonical memory's now -/
theorem commit {s' : DSt} {u : List Ent} (hE : Ext β0 C0 w0 β s.C w) (hu : Chain P rec n ops bef base s u s') (hq : ∀ e ∈ u, ∀ o, ops[e.i]? = some o → isE P o = false)
    (hm : C0.next ≤ base) (hlt : ∀ e ∈ u, e.i < ops.size) (hN : base + ops.size ≤ s.C.next) (h0 : ∀ b, base ≤ b → b < base + ops.size → β0 b = none)
    (hearly : ∀ e ∈ u, ∀ x, ABlk P ops base e x → ∃ bi, β (base + e.i) = some bi ∧ BRel β w bi x) (hnone : ∀ e ∈ u, ∀ x, ABlk P ops base e x → s.C.get (base + e.i) = none)
    (hkeep : ∀ b x, s.C.get b = some x → s'.C.get b = some x) : Ext β0 C0 w0 β s'.C w := by
  obtain ⟨_, _, h3, h4, h5, h6⟩ := chain_quiet hu hq
  refine ⟨hE.le, ⟨?_, hE.rel.lt, ?_, ?_⟩, hE.size, hE.frame, hE.old, ?_, by rw [h3]; exact hE.next, ?_, by rw [h4]; exact hE.lim, by rw [h5]; exact hE.base, hE.tape, hE.os, hE.out⟩
  · intro b i x hb hx
    rcases h6 b x hx with h | ⟨e, he, rfl, hA⟩
    · exact hE.rel.rel b i x hb h
    · obtain ⟨bi, h7, h8⟩ := hearly e he x hA
      rw [h7] at hb; cases hb; exact h8
  · intro b c i j hb hc hij
    rcases hE.rel.inj b c i j hb hc hij with h | h | h
    · exact .inl h
    · exact .inr (.inl (hkeep _ _ h))
    · exact .inr (.inr (hkeep _ _ h))
  · intro b h1 h2
    rw [h3] at h1; rw [h4] at h2
    exact hE.rel.fresh b h1 h2
  · intro b i hb hd hl
    obtain ⟨h7, y, hy, hyd⟩ := hl
    rcases h6 b y hy with h | ⟨e, he, rfl, _⟩
    · exact hE.dead b i hb hd ⟨h7, y, h, hyd⟩
    · have := hlt e he
      rw [h0 _ (by omega) (by omega)] at hb; cases hb
  · intro b i hb
    rw [h3]; exact hE.names b i hb

/-- what stands stays through a stretch that doesn't act -/
theorem quiet_keeps {s s' : DSt} {u : List Ent} (hu : Chain P rec n ops bef base s u s') (hq : ∀ e ∈ u, ∀ o, ops[e.i]? = some o → isE P o = false) (hnone : ∀ e ∈ u, ∀ x, ABlk P ops base e x → s.C.get (base + e.i) = none)
    (hnd : (u.map (·.i)).Pairwise fun i j => i ≠ j) : ∀ b x, s.C.get b = some x → s'.C.get b = some x := by
  induction hu with
  | nil => exact fun b x h => h
  | @cons i s t f v l hd hc ih =>
    intro b x hb
    obtain ⟨o, ho, _⟩ := dstep_some hd
    have hqi := hq _ List.mem_cons_self o ho
    obtain ⟨_, _, _, _, _, g6⟩ := dstep_quiet ho hqi hd
    rw [List.map_cons, List.pairwise_cons] at hnd
    have hstep : ∀ c, t.C.get c = s.C.get c ∨ (c = base + i ∧ ∃ y, ABlk P ops base ⟨i, s, v⟩ y) := by
      intro c
      rcases g6 with ⟨g7, _⟩ | ⟨y, g7, g8⟩
      · exact .inl (by rw [g7])
      · rw [g8]
        by_cases hc' : c = base + i
        · exact .inr ⟨hc', y, g7⟩
        · rw [if_neg hc']; exact .inl rfl
    refine ih (fun e he => hq e (List.mem_cons_of_mem _ he)) (fun e he y hy => ?_) hnd.2 b x ?_
    · have hne : i ≠ e.i := hnd.1 _ (List.mem_map.2 ⟨e, he, rfl⟩)
      rcases hstep (base + e.i) with h | ⟨h, _⟩
      · rw [h]; exact hnone e (List.mem_cons_of_mem _ he) y hy
      · omega
    · rcases hstep b with h | ⟨rfl, y, hy⟩
      · rw [h]; exact hb
      · rw [hnone _ List.mem_cons_self y hy] at hb; cases hb

end
end Go.Ev

/- regions that draw their order: any operation that is ready. -/
namespace Go.Ev

section
variable {P : Program} [Clean P] {rec : Rec} {n : Nat} {ops : Array Oper} {bef : Array Nat} {base : Nat}
variable {ord : List Nat} {s0 fin : DSt} {lg : List Ent} {β0 β : Ren} {C0 : CS} {w0 w : World} {X : Nat → Bool} {a : Act} {lA lB : List Ent} {s : DSt}

def addX (X : Nat → Bool) (i : Nat) : Nat → Bool := fun j => X j || j == i

theorem addX_of {X : Nat → Bool} {i j : Nat} (h : X j = true) : addX X i j = true := by simp [addX, h]
theorem addX_cases {X : Nat → Bool} {i j : Nat} (h : addX X i j = true) : X j = true ∨ j = i := by simpa [addX] using h
theorem addX_false {X : Nat → Bool} {i j : Nat} (h : addX X i j = false) : X j = false ∧ j ≠ i := by simpa [addX] using h

theorem put_tmps_getD {a : Act} {dst : Option Tmp} {v : Value} (hs : a.tmps.size = n) (t : Nat) : (a.put dst v).tmps.getD t undef = if dst = some t ∧ t < n then v else a.tmps.getD t undef := by
  rw [put_getD, hs]

theorem put_size {a : Act} {dst : Option Tmp} {v : Value} : (a.put dst v).tmps.size = a.tmps.size := by cases dst <;> simp [Act.put]

theorem closed_add {i : Nat} {o : Oper} (hX : ∀ i o, ops[i]? = some o → X i = true → ∀ e ∈ o.after.toList, Region.binds .any e = true → X e.on = true) (ho : ops[i]? = some o) (hr : ∀ e ∈ o.after.toList, Region.binds .any e = true → X e.on = true) :
    ∀ j u, ops[j]? = some u → addX X i j = true → ∀ e ∈ u.after.toList, Region.binds .any e = true → addX X i e.on = true := by
  intro j u hu hj e he hb
  rcases addX_cases hj with h | h
  · exact addX_of (hX j u hu h e he hb)
  · subst h
    rw [ho] at hu; cases hu
    exact addX_of (hr e he hb)

theorem name_ptr {β : Ren} {q : Nat} {v : Value} (h : VRel β (.pointer (some ⟨q, 0, none⟩)) v) : ∃ bi, β q = some bi := by
  cases h with | ptr hb => exact ⟨_, hb⟩
theorem name_slice {β : Ren} {q l c : Nat} {v : Value} (h : VRel β (.slice (some ⟨q, 0, none⟩) l c) v) : ∃ bi, β q = some bi := by
  cases h with | slice hb _ _ => exact ⟨_, hb⟩
theorem name_map {β : Ren} {q : Nat} {v : Value} (h : VRel β (.map (some q)) v) : ∃ bi, β q = some bi := by
  cases h with | map hb => exact ⟨_, hb⟩

theorem MakesOne.cast {f : CS → Option (CRes × CS)} {C C' : CS} {v : Value} {x : CB} (h : MakesOne f C v x) (h1 : C'.next = C.next) (h2 : C'.lim = C.lim) : MakesOne f C' v x :=
  ⟨by rw [h1, h2]; exact h.room, h.live, by rw [h1]; exact h.val, fun D e h3 h4 => h.all D (e.trans h1) h3 h4⟩

theorem core_step (G : Glob P rec n ops bef base ord s0 fin lg) (hrec : RecOk P rec) (h0 : ∀ b, base ≤ b → b < base + ops.size → β0 b = none) (hm : C0.next = base)
    (K : Core P rec n ops bef base β0 C0 w0 s0 fin lg X a w β lA lB s) {i : Nat} {o : Oper} (ho : ops[i]? = some o) (hnot : X i = false) (hr : ∀ e ∈ o.after.toList, Region.binds .any e = true → X e.on = true)
    {e : Ent} (he : e ∈ lg) (hei : e.i = i) {Kc : Act → World → Prop} {Q : Exit → Act → World → Prop}
    (hK : ∀ a' w' β' lA' lB' s', Core P rec n ops bef base β0 C0 w0 s0 fin lg (addX X i) a' w' β' lA' lB' s' → Kc a' w') : wpOp P ops Q i Kc a w := by
  have heB : e ∈ lB := by
    rw [K.split] at he
    rcases List.mem_append.1 he with h | h
    · have := K.inA e h
      rw [hei, hnot] at this; cases this
    · exact h
  obtain ⟨u, v, huv⟩ := List.append_of_mem heB
  have hcB := K.cB
  rw [huv] at hcB
  obtain ⟨m, hcu, hcv⟩ := hcB.split
  obtain ⟨hes, s', hds, hcv'⟩ := hcv.head
  subst hes
  rw [hei] at hds
  have hl : lg = (lA ++ u) ++ e :: v := by rw [K.split, huv, List.append_assoc]
  have hchain1 : Chain P rec n ops bef base s0 (lA ++ u) e.s := K.cA.append hcu
  have hpair := G.pair
  rw [hl] at hpair
  have hnd := G.nodup
  rw [hl] at hnd
  obtain ⟨hp1, hp2⟩ := pairwise_split hpair
  obtain ⟨hn1, hn2⟩ := pairwise_split hnd
  have hXlt : ∀ j, X j = true → j < ops.size := fun j hj => by
    obtain ⟨e', he', rfl⟩ := K.subX j hj; exact G.lt he'
  have hR : Ready P n ops s0 lg X o e.s.T := ready_reads G K.closedX K.subX hl hchain1 ho hnot hr
    (fun x hx => ⟨by rw [← hei]; exact hn1 x hx, by rw [← hei]; exact (hp1 x hx).1⟩)
    (fun x hx hne => by
      rcases List.mem_cons.1 hx with rfl | hx
      · exact absurd hei hne
      · rw [← hei]; exact (hp2 x hx).1)
  obtain ⟨hwant, hopsr⟩ := ready_rel hR K.tm
  have hbd := bef_done G.ok K.closedX hXlt (i + 1) i o (by omega) ho hr
  have heo : ops[e.i]? = some o := by rw [hei]; exact ho
  have hsubX' : ∀ j, addX X i j = true → ∃ e ∈ lg, e.i = j := by
    intro j hj
    rcases addX_cases hj with h | h
    · exact K.subX j h
    · exact ⟨e, he, hei.trans h.symm⟩
  have hclX' := closed_add K.closedX ho hr
  have hemem : e ∈ lg := he
  -- the temporaries
  have htm' : ∀ {β' : Ren} {v' : Value} {a' : Act}, β.Le β' → VRel β' e.v v' → a'.tmps = (a.put o.dst v').tmps → ∀ t x, TX ops n s0.T lg (addX X i) t x → VRel β' x (a'.tmps.getD t undef) := by
    intro β' v' a' hle hv ha t x hx
    rw [ha, put_tmps_getD K.sz]
    have hx' : TX ops n s0.T lg (fun j => X j || j == e.i) t x := by rw [hei]; exact hx
    rcases TX_put G hemem heo hx' with ⟨h1, h2, h3⟩ | ⟨h1, h2⟩
    · rw [if_pos ⟨h1, h2⟩, h3]; exact hv
    · rw [if_neg h1]; exact (K.tm t x h2).mono hle
  unfold wpOp
  rw [ho]
  dsimp only
  cases hE : isE P o with
  | false =>
    -- what doesn't act: the split stays
    obtain ⟨hdfs, _, _, _, _, hcase⟩ := dstep_quiet ho hE hds
    have hnoE' : ∀ e' ∈ lB, ∀ o', ops[e'.i]? = some o' → isE P o' = true → addX X i e'.i = false := by
      intro e' he' o' ho' hE'
      have h1 := K.noE e' he' o' ho' hE'
      have h2 : e'.i ≠ i := by
        intro h; rw [h, ho] at ho'; cases ho'; rw [hE] at hE'; cases hE'
      simp [addX, h1, h2]
    have hinA' : ∀ e' ∈ lA, addX X i e'.i = true := fun e' h => addX_of (K.inA e' h)
    rcases hcase with ⟨_, hcase⟩ | ⟨x, hAb, _⟩
    · -- nothing is made
      have finish : ∀ {β' : Ren} {w' : World} {v' : Value} {a' : Act}, Ext β s.C w β' s.C w' → VRel β' e.v v' → a'.tmps = (a.put o.dst v').tmps → DRel β' s.dfs a'.defers → (∀ x, ¬ ABlk P ops base e x) → Kc a' w' := by
        intro β' w' v' a' hX hv ha hd hnA
        refine hK a' w' β' lA lB s ⟨K.split, K.cA, K.cB, hinA', hnoE', K.ext.trans hX, K.hd, K.lastE, K.nx, htm' hX.le hv ha, ?_, hd, ?_, ?_, hclX', hsubX'⟩
        · rw [ha, put_size]; exact K.sz
        · intro e' he' hXe x hx
          rcases addX_cases hXe with h | h
          · obtain ⟨bi, h1, h2⟩ := K.early e' he' h x hx
            exact ⟨bi, hX.le _ _ h1, early_stays K.ext.rel h1 (K.unborn he' hx) h2 hX.le hX.frame⟩
          · have : e' = e := by
              have hx' : TX ops n s0.T lg (fun _ => false) 0 undef → True := fun _ => trivial
              have hmem : e' ∈ lg := by rw [K.split]; exact List.mem_append_right _ he'
              rw [hl] at hmem
              rcases List.mem_append.1 hmem with h2 | h2
              · exact absurd (h.trans hei.symm) (hn1 e' h2)
              · rcases List.mem_cons.1 h2 with h3 | h3
                · exact h3
                · exact absurd (hei.trans h.symm) (hn2 e' h3)
            rw [this] at hx; exact absurd hx (hnA x)
        · intro j hj hXj
          obtain ⟨h1, _⟩ := addX_false hXj
          have h2 := K.late j hj h1
          cases hb : β' (base + j) with
          | none => rfl
          | some bi =>
            rcases hX.names _ _ hb with h3 | ⟨h3, h4⟩
            · rw [h2] at h3; cases h3
            · omega
      rcases hcase with ⟨hw, hv⟩ | ⟨hw, hk, hnA, hRd, hst⟩
      · rw [if_neg (by rw [hwant _ hw]; simp)]
        refine finish (.refl K.ext.rel) ?_ rfl ?_ ?_
        · rw [show e.v = undef from hv]; exact .undef
        · have hp : (a.put o.dst undef).defers = a.defers := by cases o.dst <;> rfl
          rw [hp]; exact K.df
        · rintro x ⟨o', ho', _, hw', _⟩
          rw [heo] at ho'; cases ho'
          rw [hw] at hw'; cases hw'
      · rw [if_pos (hwant _ hw)]
        left
        -- the memory at the head is among those that were tried
        have hmem : s.C ∈ e.s.st.take (e.s.st.length - lowOf P ops bef i) := by
          obtain ⟨pre, h4, _⟩ := chain_st hcu
          obtain ⟨r, h5⟩ := K.hd
          obtain ⟨preA, h6, h7⟩ := chain_st K.cA
          have hlow : lowOf P ops bef i ≤ lA.countP fun e => actsAt P ops e.i := by
            refine low_le fun j hj hb hact => ?_
            have hXj := hbd j hj hb
            obtain ⟨e', he', rfl⟩ := K.subX j hXj
            refine ⟨e', ?_, rfl⟩
            rw [K.split] at he'
            rcases List.mem_append.1 he' with h | h
            · exact h
            · have hjo : ops[e'.i]? = some ops[e'.i] := by simp [hj]
              have hE' : isE P ops[e'.i] = true := by simpa [actsAt, hjo] using hact
              rw [K.noE e' h _ hjo hE'] at hXj; cases hXj
          have hlen : s.st.length = 1 + lA.countP fun e => actsAt P ops e.i := by
            rw [h6, G.st0]; simp [h7, Nat.add_comm]
          have hlr : s.st.length = r.length + 1 := by rw [h5]; simp
          rw [h4, h5]
          have e1 : pre ++ s.C :: r = (pre ++ [s.C]) ++ r := by simp
          rw [e1, List.take_append]
          refine List.mem_append_left _ ?_
          rw [List.take_of_length_le (by simp; omega)]
          simp
        have hst' := List.all_eq_true.1 hst s.C hmem
        split at hst'
        · rename_i x D hc
          have hve := veq_eq hst'
          subst hve
          obtain ⟨hD, _⟩ := cop_R hRd hc
          subst hD
          refine (EvV.val hc).upon (P := P) hrec (hopsr hk) K.ext.rel ?_
          intro β' v' a' w' hX hv ha hd
          refine finish hX hv ha (hd _ K.df) ?_
          rintro x ⟨o', ho', hA', _⟩
          rw [heo] at ho'; cases ho'
          have hnA' : isA o.op = false := hnA
          rw [hnA'] at hA'; cases hA'
        · cases hst'
    · -- a block is made
      obtain ⟨o', ho', hAo, hw, hk, hM, hstn⟩ := hAb
      rw [ho] at ho'; cases ho'
      rw [if_pos (hwant _ hw)]
      left
      have hAe : ABlk P ops base e x := ⟨o, heo, hAo, hw, hk, by rw [hei]; exact hM, by rw [hei]; exact hstn⟩
      have hnone : s.C.get (base + i) = none := by have := K.unborn heB hAe; rw [hei] at this; exact this
      have hlate := K.late i (lt_of_some ho) hnot
      have hcop := hM.all { s.C with next := base + i, lim := base + i + 1 } rfl hM.room.1 hM.room.2
      have hW' : WRel β { s.C with next := base + i, lim := base + i + 1 } w := by
        refine ⟨K.ext.rel.rel, K.ext.rel.lt, K.ext.rel.inj, fun b h1 h2 => ?_⟩
        have h1' : base + i ≤ b := h1
        have h2' : b < base + i + 1 := h2
        have : b = base + i := by omega
        rw [this]; exact hlate
      refine (EvV.val hcop).upon (P := P) hrec (hopsr hk) hW' ?_
      intro β' v' a' w' hX hv ha hd
      have hbn : base + i < bnd := by have := hM.room; dsimp only at this; omega
      have hget : ∀ b, (({ s.C with next := base + i, lim := base + i + 1 } : CS).addNew x).get b = if b = base + i then some x else s.C.get b := by
        intro b
        have := CS.get_put (C := { s.C with next := base + i, lim := base + i + 1 }) (x := x) hbn b
        simpa [CS.get_def, CS.put_def, CS.addNew] using this
      have hE2 := reserved_step (N := ops.size) (m := base) (i := i) K.ext (by omega) (lt_of_some ho) K.nx hnone hlate (hM.cast rfl rfl) hX
      have hdf : DRel β' s.dfs a'.defers := hd _ K.df
      refine hK a' w' β' lA lB s ⟨K.split, K.cA, K.cB, hinA', hnoE', hE2, K.hd, K.lastE, K.nx, htm' hX.le hv ha, ?_, hdf, ?_, ?_, hclX', hsubX'⟩
      · rw [ha, put_size]; exact K.sz
      · intro e' he' hXe y hy
        rcases addX_cases hXe with h | h
        · obtain ⟨bi, h1, h2⟩ := K.early e' he' h y hy
          exact ⟨bi, hX.le _ _ h1, early_stays K.ext.rel h1 (K.unborn he' hy) h2 hX.le hX.frame⟩
        · have hee : e' = e := by
            have hmem : e' ∈ lg := by rw [K.split]; exact List.mem_append_right _ he'
            rw [hl] at hmem
            rcases List.mem_append.1 hmem with h2 | h2
            · exact absurd (h.trans hei.symm) (hn1 e' h2)
            · rcases List.mem_cons.1 h2 with h3 | h3
              · exact h3
              · exact absurd (hei.trans h.symm) (hn2 e' h3)
          subst hee
          -- the same block
          have hxy : y = x := by
            obtain ⟨o2, ho2, _, _, _, hM2, _⟩ := hy
            rw [heo] at ho2; cases ho2
            rw [hei] at hM2
            have c1 := hM2.all { e'.s.C with next := base + i, lim := base + i + 1 } rfl hM2.room.1 hM2.room.2
            have c2 := hM.all { e'.s.C with next := base + i, lim := base + i + 1 } rfl hM.room.1 hM.room.2
            rw [c1] at c2
            simp only [Option.some.injEq, Prod.mk.injEq, true_and] at c2
            have g1 := CS.get_put (C := { e'.s.C with next := base + i, lim := base + i + 1 }) (x := y) hbn (base + i)
            have g2 := CS.get_put (C := { e'.s.C with next := base + i, lim := base + i + 1 }) (x := x) hbn (base + i)
            have c3 : (({ e'.s.C with next := base + i, lim := base + i + 1 } : CS).addNew y).get (base + i) = (({ e'.s.C with next := base + i, lim := base + i + 1 } : CS).addNew x).get (base + i) := by rw [c2]
            have g1' : (({ e'.s.C with next := base + i, lim := base + i + 1 } : CS).addNew y).get (base + i) = some y := by simpa [CS.get_def, CS.put_def, CS.addNew] using g1
            have g2' : (({ e'.s.C with next := base + i, lim := base + i + 1 } : CS).addNew x).get (base + i) = some x := by simpa [CS.get_def, CS.put_def, CS.addNew] using g2
            rw [g1', g2'] at c3
            exact Option.some.inj c3
          subst hxy
          have hname : ∃ bi, β' (base + i) = some bi := by
            have hval := hM.val
            dsimp only at hval
            rcases hval with hv1 | ⟨l, c, hv1⟩ | hv1
            · rw [hv1] at hv; exact name_ptr hv
            · rw [hv1] at hv; exact name_slice hv
            · rw [hv1] at hv; exact name_map hv
          obtain ⟨bi, hbi⟩ := hname
          exact ⟨bi, by rw [hei]; exact hbi, hX.rel.rel _ _ _ hbi (by rw [hget, if_pos rfl])⟩
      · intro j hj hXj
        obtain ⟨h1, hji⟩ := addX_false hXj
        have h2 := K.late j hj h1
        cases hb : β' (base + j) with
        | none => rfl
        | some bi =>
          rcases hX.names _ _ hb with h3 | ⟨h3, h4⟩
          · rw [h2] at h3; cases h3
          · have h3' : base + i ≤ base + j := h3
            have h4' : base + j < base + i + 1 := h4
            omega
  | true =>
    -- what acts: all before it is done
    obtain ⟨hst', hcase⟩ := dstep_acts ho hE hds
    have huX : ∀ x ∈ u, X x.i = true := by
      intro x hx
      have hxl : x ∈ lg := by rw [hl]; simp [hx]
      refine hbd x.i (G.lt hxl) ?_
      have := (hp1 x (List.mem_append_right _ hx)).2 o heo hE
      rw [hei] at this; exact this
    have hlBmem : ∀ x ∈ u, x ∈ lB := fun x hx => by rw [huv]; simp [hx]
    have huq : ∀ x ∈ u, ∀ o', ops[x.i]? = some o' → isE P o' = false := by
      intro x hx o' ho'
      cases hE' : isE P o' with
      | false => rfl
      | true =>
        have := K.noE x (hlBmem x hx) o' ho' hE'
        rw [huX x hx] at this; cases this
    have hnone : ∀ x ∈ u, ∀ y, ABlk P ops base x y → s.C.get (base + x.i) = none := fun x hx y hy => K.unborn (hlBmem x hx) hy
    have hndu : (u.map (·.i)).Pairwise fun i j => i ≠ j := by
      have := G.nodup
      rw [hl, List.map_append, List.map_append] at this
      rw [List.pairwise_append, List.pairwise_append] at this
      exact this.1.2.1
    have hext : Ext β0 C0 w0 β e.s.C w := commit K.ext hcu huq (by omega) (fun x hx => G.lt (by rw [hl]; simp [hx])) K.nx h0
      (fun x hx y hy => K.early x (hlBmem x hx) (huX x hx) y hy) hnone (quiet_keeps hcu huq hnone hndu)
    obtain ⟨hdu, hsu, hnu, hlu, hbu, hgu⟩ := chain_quiet hcu huq
    have finish : ∀ {β' : Ren} {w' : World} {v' : Value} {a' : Act}, Ext β e.s.C w β' s'.C w' → VRel β' e.v v' → a'.tmps = (a.put o.dst v').tmps → DRel β' s'.dfs a'.defers → Kc a' w' := by
      intro β' w' v' a' hX hv ha hd
      have hvB : ∀ x ∈ v, x ∈ lB := fun x hx => by rw [huv]; simp [hx]
      refine hK a' w' β' (lA ++ u ++ [e]) v s' ⟨by rw [hl]; simp, ?_, hcv', ?_, ?_, hext.trans hX, ⟨_, hst'⟩, ?_, ?_, htm' hX.le hv ha, ?_, hd, ?_, ?_, hclX', hsubX'⟩
      · refine hchain1.append ?_
        have : e = ⟨e.i, e.s, e.v⟩ := rfl
        rw [this]
        exact .cons (by rw [hei]; exact hds) (.nil _)
      · intro x hx
        rcases List.mem_append.1 hx with hx | hx
        · rcases List.mem_append.1 hx with hx | hx
          · exact addX_of (K.inA x hx)
          · exact addX_of (huX x hx)
        · simp only [List.mem_singleton] at hx
          subst hx
          simp [addX, hei]
      · intro x hx o' ho' hE'
        have h1 := K.noE x (hvB x hx) o' ho' hE'
        have h2 : x.i ≠ i := by rw [← hei]; exact fun h => hn2 x hx h.symm
        simp [addX, h1, h2]
      · intro l x hx
        have : e = x := by
          have := congrArg List.getLast? hx
          simpa using this
        rw [← this]; exact ⟨o, heo, hE⟩
      · have h1 := hX.next
        have h2 := K.nx
        omega
      · rw [ha, put_size]; exact K.sz
      · intro x hx hXx y hy
        have hXx' : X x.i = true := by
          rcases addX_cases hXx with h | h
          · exact h
          · exact absurd (hei.trans h.symm) (hn2 x hx)
        obtain ⟨bi, h1, h2⟩ := K.early x (hvB x hx) hXx' y hy
        have hun : e.s.C.get (base + x.i) = none := by
          have h3 := K.unborn (hvB x hx) hy
          cases hg : e.s.C.get (base + x.i) with
          | none => rfl
          | some z =>
            rcases hgu _ _ hg with h4 | ⟨x', hx', h4, _⟩
            · rw [h3] at h4; cases h4
            · have h5 : x'.i = x.i := by omega
              have hnd3 := G.nodup
              rw [hl, List.append_assoc, List.map_append, List.map_append, List.pairwise_append] at hnd3
              have hnd4 := hnd3.2.1
              rw [List.pairwise_append] at hnd4
              exact absurd h5 (hnd4.2.2 _ (List.mem_map.2 ⟨x', hx', rfl⟩) _ (List.mem_map.2 ⟨x, List.mem_cons_of_mem _ hx, rfl⟩))
        exact ⟨bi, hX.le _ _ h1, early_stays (s := e.s) hext.rel h1 hun h2 hX.le hX.frame⟩
      · intro j hj hXj
        obtain ⟨h1, _⟩ := addX_false hXj
        have h2 := K.late j hj h1
        cases hb : β' (base + j) with
        | none => rfl
        | some bi =>
          rcases hX.names _ _ hb with h3 | ⟨h3, h4⟩
          · rw [h2] at h3; cases h3
          · have := K.nx
            omega
    rcases hcase with ⟨hw, hv, hC, hd⟩ | ⟨hw, hk, dl, hV, hd⟩
    · rw [if_neg (by rw [hwant _ hw]; simp)]
      refine finish (β' := β) (w' := w) (v' := undef) ?_ ?_ rfl ?_
      · rw [hC]; exact .refl hext.rel
      · rw [hv]; exact .undef
      · have hp : (a.put o.dst undef).defers = a.defers := by cases o.dst <;> rfl
        rw [hp, hd, hdu]; exact K.df
    · rw [if_pos (hwant _ hw)]
      left
      refine hV.upon hrec (hopsr hk) hext.rel ?_
      intro β' v' a' w' hX hv ha hdd
      refine finish hX hv ha ?_
      rw [hd]
      exact hdd _ (by rw [hdu]; exact K.df)

end
end Go.Ev

/- regions that draw their order: soundness. -/
namespace Go.Ev

section
variable {P : Program} [Clean P] {rec : Rec} {n : Nat} {ops : Array Oper} {bef : Array Nat} {base : Nat}
variable {ord : List Nat} {s0 fin : DSt} {lg : List Ent} {β0 β : Ren} {C0 : CS} {w0 w : World} {X : Nat → Bool} {a : Act} {lA lB : List Ent} {s : DSt}

/-- the end: all is done -/
theorem core_end (G : Glob P rec n ops bef base ord s0 fin lg) (h0 : ∀ b, base ≤ b → b < base + ops.size → β0 b = none) (hm : C0.next = base)
    (K : Core P rec n ops bef base β0 C0 w0 s0 fin lg X a w β lA lB s) (hall : ∀ e ∈ lg, X e.i = true) : Ext β0 C0 w0 β fin.C w ∧ ARel β n ⟨fin.T, fin.dfs⟩ a := by
  have hlB : ∀ e ∈ lB, e ∈ lg := fun e he => by rw [K.split]; exact List.mem_append_right _ he
  have hq : ∀ e ∈ lB, ∀ o, ops[e.i]? = some o → isE P o = false := by
    intro e he o ho
    cases hE : isE P o with
    | false => rfl
    | true =>
      have := K.noE e he o ho hE
      rw [hall e (hlB e he)] at this; cases this
  have hnone : ∀ x ∈ lB, ∀ y, ABlk P ops base x y → s.C.get (base + x.i) = none := fun x hx y hy => K.unborn hx hy
  have hnd : (lB.map (·.i)).Pairwise fun i j => i ≠ j := by
    have := G.nodup
    rw [K.split, List.map_append, List.pairwise_append] at this
    exact this.2.1
  obtain ⟨hdf, _⟩ := chain_quiet K.cB hq
  refine ⟨commit K.ext K.cB hq (by omega) (fun x hx => G.lt (hlB x hx)) K.nx h0 (fun x hx y hy => K.early x hx (hall x (hlB x hx)) y hy) hnone (quiet_keeps K.cB hq hnone hnd), K.sz, ?_, ?_⟩
  · intro t v hv
    refine K.tm t v ?_
    rcases chain_T G.hn G.chain hv with ⟨e, he, h1, h2, h3⟩ | ⟨h1, h2⟩
    · exact .inl ⟨e, he, hall e he, h1, h2, h3⟩
    · exact .inr ⟨h1, fun e he _ => h2 e he⟩
  · dsimp only; rw [hdf]; exact K.df

/-- where one panics -/
theorem core_pnc (G : Glob P rec n ops bef base ord s0 fin lg) (hrec : RecOk P rec) (h0 : ∀ b, base ≤ b → b < base + ops.size → β0 b = none) (hm : C0.next = base)
    (K : Core P rec n ops bef base β0 C0 w0 s0 fin lg X a w β lA lB s) {i : Nat} {o : Oper} (ho : ops[i]? = some o) (hnot : X i = false) (hr : ∀ e ∈ o.after.toList, Region.binds .any e = true → X e.on = true)
    {l₁ l₂ : List Ent} {sp : DSt} {v : Value} {D : CS} {rest : List Nat} (hl : lg = l₁ ++ l₂) (hc1 : Chain P rec n ops bef base s0 l₁ sp) (hds : dstep P rec n ops bef base i sp = some (.pnc v D))
    (hord : ord = l₁.map (·.i) ++ i :: rest) (hl2 : l₂.map (·.i) = rest.filter (fun j => !befB bef j i)) {Kc : Act → World → Prop} {Q : Exit → Act → World → Prop}
    (hQ : ∀ β' e w', Ext β0 C0 w0 β' D w' → ARel β' n ⟨withoutDsts ops.toList s0.T, sp.dfs⟩ a → XR β' (.pnc v) (.panic [e]) → Q (.panic [e]) a w') : wpOp P ops Q i Kc a w := by
  obtain ⟨hE, hw, hk, hP⟩ := dstep_pnc ho hds
  have hXlt : ∀ j, X j = true → j < ops.size := fun j hj => by
    obtain ⟨e', he', rfl⟩ := K.subX j hj; exact G.lt he'
  have hbd := bef_done G.ok K.closedX hXlt (i + 1) i o (by omega) ho hr
  have hpo := G.ok.pair
  have hno := G.ok.nodup
  rw [hord] at hpo hno
  rw [List.pairwise_append] at hpo hno
  have hp1 : ∀ x ∈ l₁, befB bef x.i i = false ∧ befB bef i x.i = true := by
    intro x hx
    have := hpo.2.2 x.i (List.mem_map.2 ⟨x, hx, rfl⟩) i List.mem_cons_self
    exact ⟨this.1, this.2 o ho hE⟩
  have hn1 : ∀ x ∈ l₁, x.i ≠ i := fun x hx => hno.2.2 x.i (List.mem_map.2 ⟨x, hx, rfl⟩) i List.mem_cons_self
  have hrest : ∀ x ∈ l₂, x.i ∈ rest ∧ befB bef x.i i = false := by
    intro x hx
    have : x.i ∈ l₂.map (·.i) := List.mem_map.2 ⟨x, hx, rfl⟩
    rw [hl2] at this
    have := List.mem_filter.1 this
    exact ⟨this.1, by simpa using this.2⟩
  have hp2 : ∀ x ∈ l₂, befB bef i x.i = false ∧ (∀ u : Oper, ops[x.i]? = some u → isE P u = false) := by
    intro x hx
    have h1 := (List.pairwise_cons.1 hpo.2.1).1 x.i (hrest x hx).1
    refine ⟨h1.1, fun u hu => ?_⟩
    cases hEu : isE P u with
    | false => rfl
    | true => have := h1.2 u hu hEu; rw [(hrest x hx).2] at this; cases this
  -- all in front is done
  have h1X : ∀ x ∈ l₁, X x.i = true := fun x hx => hbd x.i (G.lt (by rw [hl]; simp [hx])) (hp1 x hx).2
  -- the first part is in front
  obtain ⟨u, hlu, hBu⟩ : ∃ u, l₁ = lA ++ u ∧ lB = u ++ l₂ := by
    have hs := K.split
    rw [hl] at hs
    rcases List.append_eq_append_iff.1 hs with ⟨c, h1, h2⟩ | ⟨c, h1, h2⟩
    · -- lA = l₁ ++ c
      rcases List.eq_nil_or_concat c with rfl | ⟨c', e, rfl⟩
      · exact ⟨[], by simpa using h1.symm, by simpa using h2.symm⟩
      · rw [List.concat_eq_append] at h1 h2
        obtain ⟨o', ho', hE'⟩ := K.lastE (l₁ ++ c') e (by rw [h1]; simp)
        have := (hp2 e (by rw [h2]; simp)).2 o' ho'
        rw [this] at hE'; cases hE'
    · exact ⟨c, h1, h2⟩
  have hcu : Chain P rec n ops bef base s u sp := by
    rw [hlu] at hc1
    obtain ⟨m, h1, h2⟩ := hc1.split
    have : m = s := by
      have uniq : ∀ {x y z : DSt} {l : List Ent}, Chain P rec n ops bef base x l y → Chain P rec n ops bef base x l z → y = z := by
        intro x y z l h
        induction h generalizing z with
        | nil => intro h'; cases h'; rfl
        | cons hd hc ih =>
          intro h'
          cases h' with
          | cons hd' hc' =>
            rw [hd] at hd'
            simp only [Option.some.injEq, DRes.next.injEq, true_and] at hd'
            subst hd'
            exact ih hc'
      exact uniq h1 K.cA
    rw [← this]; exact h2
  have hlBmem : ∀ x ∈ u, x ∈ lB := fun x hx => by rw [hBu]; simp [hx]
  have huX : ∀ x ∈ u, X x.i = true := fun x hx => h1X x (by rw [hlu]; simp [hx])
  have huq : ∀ x ∈ u, ∀ o', ops[x.i]? = some o' → isE P o' = false := by
    intro x hx o' ho'
    cases hE' : isE P o' with
    | false => rfl
    | true =>
      have := K.noE x (hlBmem x hx) o' ho' hE'
      rw [huX x hx] at this; cases this
  have hnone : ∀ x ∈ u, ∀ y, ABlk P ops base x y → s.C.get (base + x.i) = none := fun x hx y hy => K.unborn (hlBmem x hx) hy
  have hndu : (u.map (·.i)).Pairwise fun i j => i ≠ j := by
    have := G.nodup
    rw [K.split, hBu, List.map_append, List.map_append, List.pairwise_append, List.pairwise_append] at this
    exact this.2.1.1
  have hext : Ext β0 C0 w0 β sp.C w := commit K.ext hcu huq (by omega) (fun x hx => G.lt (by rw [K.split, hBu]; simp [hx])) K.nx h0
    (fun x hx y hy => K.early x (hlBmem x hx) (huX x hx) y hy) hnone (quiet_keeps hcu huq hnone hndu)
  obtain ⟨hdu, _⟩ := chain_quiet hcu huq
  have hR : Ready P n ops s0 lg X o sp.T := ready_reads G K.closedX K.subX hl hc1 ho hnot hr
    (fun x hx => ⟨hn1 x hx, (hp1 x hx).1⟩) (fun x hx _ => (hp2 x hx).1)
  obtain ⟨hwant, hopsr⟩ := ready_rel hR K.tm
  unfold wpOp
  rw [ho]
  dsimp only
  rw [if_pos (hwant _ hw)]
  left
  refine hP.upon hrec (hopsr hk) hext.rel ?_
  intro β' e w' hX hXR
  refine hQ β' e w' (hext.trans hX) ⟨K.sz, ?_, ?_⟩ hXR
  · intro t x hx
    obtain ⟨h1, h2⟩ := withoutDsts_get _ _ _ _ hx
    refine (K.tm t x (.inr ⟨h1, fun e' he' _ hc => ?_⟩)).mono hX.le
    have hlt := G.lt he'
    have heo : ops[e'.i]? = some ops[e'.i] := by simp [hlt]
    exact h2 ops[e'.i] (by simp) (by simpa [dstOf, heo] using hc.1)
  · dsimp only; rw [hdu]; exact K.df.mono hX.le

theorem count_add {i : Nat} : ∀ {l : List Nat}, l.Nodup → i ∈ l → X i = false → l.countP (addX X i) = l.countP X + 1
  | [], _, h, _ => by simp at h
  | x :: xs, hn, h, hX => by
    rw [List.nodup_cons] at hn
    by_cases e : x = i
    · subst e
      rw [List.countP_cons_of_pos (by simp [addX]), List.countP_cons_of_neg (by simp [hX])]
      congr 1
      refine List.countP_congr fun y hy => ?_
      have : y ≠ x := fun h => hn.1 (h ▸ hy)
      simp [addX, this]
    · have hi : i ∈ xs := by simpa [Ne.symm e] using h
      have ih := count_add hn.2 hi hX
      by_cases hx : X x = true
      · rw [List.countP_cons_of_pos (by simp [addX, hx]), List.countP_cons_of_pos hx, ih]
      · rw [List.countP_cons_of_neg (by simp [addX, hx, e]), List.countP_cons_of_neg hx, ih]

end
end Go.Ev

/- regions that draw their order: the whole. -/
namespace Go.Ev

/-- two stores at the end that the region leaves unordered, and the place of one of them -/
def tailed (ops : Array Oper) : Option (Tmp × TypeId × Operand × Operand × TypeId × Operand × Operand × TypeId × Operand × Operand) :=
  if 3 ≤ ops.size then
    match ops[ops.size - 3]?, ops[ops.size - 2]?, ops[ops.size - 1]? with
    | some ⟨some d, .indexAddr t x i, _, _, e1, none⟩, some ⟨none, .store t2 a2 x2, _, _, e2, none⟩, some ⟨none, .store t3 a3 x3, _, _, e3, none⟩ =>
      if e2.any (fun e => Region.binds .any e && e.on == ops.size - 3) && !(e3.any fun e => Region.binds .any e && (e.on == ops.size - 3 || e.on == ops.size - 2)) then some (d, t, x, i, t2, a2, x2, t3, a3, x3) else none
    | _, _, _ => none
  else none

def prefLen (ops : Array Oper) : Nat := if (tailed ops).isSome then ops.size - 3 else ops.size

def ordOf (P : Program) (ops : Array Oper) : List Nat := (orderOf P ops (Region.before ops)).filter (· < prefLen ops)

/-- a region that the evaluator may walk in one order for all -/
def drawOk (P : Program) (n : Nat) (ops : Array Oper) : Bool :=
  okDraw P ops (Region.before ops) (ordOf P ops) && okSmall n ops && ((ordOf P ops).length == prefLen ops) &&
  (List.range ops.size).all (fun i => Nat.blt i (prefLen ops) || (List.range (prefLen ops)).all fun j => match ops[i]? with | some o => o.after.any (fun e => Region.binds .any e && e.on == j) && befB (Region.before ops) i j | none => false)

def notTmp (d : Tmp) : Operand → Bool
  | .tmp t => !Nat.beq t d
  | _ => true

def evTail (P : Program) (n : Nat) (ops : Array Oper) (T : Tr Value) (C : CS) : Option (Tr Value × CS) :=
  match tailed ops with
  | none => some (T, C)
  | some (d, t, x, i, t2, a2, x2, t3, a3, x3) =>
    match opd T x, opd T i, opd T a3, opd T x3 with
    | some vx, some vi, some p3, some v3 =>
      match cindexAt P t vx vi with
      | some v =>
        match opd (tput n T (some d) v) a2, opd (tput n T (some d) v) x2, p3 with
        | some (.pointer (some ⟨b2, q2, none⟩)), some v2, .pointer (some ⟨b3, q3, none⟩) =>
          if notTmp d a3 && notTmp d x3 && !Nat.beq b2 b3 then
            match cstore P C t2 (.pointer (some ⟨b2, q2, none⟩)) v2 with
            | some C2 => (cstore P C2 t3 (.pointer (some ⟨b3, q3, none⟩)) v3).map fun C3 => (tput n T (some d) v, C3)
            | none => none
          else none
        | _, _, _ => none
      | none => none
    | _, _, _, _ => none

def evDrawn (P : Program) (rec : Rec) (n : Nat) (ops : Array Oper) (A : CAct) (C : CS) : Option (CExit × CAct × CS) :=
  if C.next + ops.size ≤ C.lim then
    match drun P rec n ops (Region.before ops) C.next (ordOf P ops) { T := A.T, C := { C with next := C.next + ops.size }, dfs := A.dfs, st := [{ C with next := C.next + ops.size }] } with
    | some (.done _ f) =>
      match evTail P n ops f.T f.C with
      | some (T, D) => some (.normal, ⟨T, f.dfs⟩, D)
      | none => none
    | some (.pnc _ _ s v D _ _) => some (.pnc v, ⟨withoutDsts ops.toList A.T, s.dfs⟩, D)
    | none => none
  else none

section
variable {P : Program} [Clean P] {rec : Rec} {n : Nat} {ops : Array Oper} {bef : Array Nat} {base : Nat}
variable {ord : List Nat} {s0 fin : DSt} {lg : List Ent} {β0 β : Ren} {C0 : CS} {w0 w : World} {X : Nat → Bool} {a : Act} {lA lB : List Ent} {s : DSt}

theorem ready_spec {listed : Array Bool} {i : Nat} (h : i ∈ Region.ready .any ops listed) : i < ops.size ∧ listed.getD i true = false ∧ ∃ o, ops[i]? = some o ∧ ∀ e ∈ o.after.toList, Region.binds .any e = true → listed.getD e.on false = true := by
  unfold Region.ready at h
  simp only [List.mem_filter, List.mem_range, Bool.and_eq_true, Bool.not_eq_true'] at h
  obtain ⟨h1, h2, h3⟩ := h
  refine ⟨h1, h2, ?_⟩
  cases ho : ops[i]? with
  | none => rw [ho] at h3; cases h3
  | some o =>
    rw [ho] at h3
    refine ⟨o, rfl, fun e he hb => ?_⟩
    simp only [Option.map_some, Option.getD_some, Array.all_eq_true_iff_forall_mem] at h3
    have := h3 e (by simpa using he)
    simpa [hb] using this

theorem ready_mem {listed : Array Bool} {i : Nat} {o : Oper} (ho : ops[i]? = some o) (h2 : listed.getD i true = false) (h3 : ∀ e ∈ o.after.toList, Region.binds .any e = true → listed.getD e.on false = true) : i ∈ Region.ready .any ops listed := by
  unfold Region.ready
  simp only [List.mem_filter, List.mem_range, Bool.and_eq_true, Bool.not_eq_true']
  refine ⟨lt_of_some ho, h2, ?_⟩
  rw [ho]
  simp only [Option.map_some, Option.getD_some, Array.all_eq_true_iff_forall_mem]
  intro e he
  cases hb : Region.binds .any e with
  | false => simp
  | true => simp [h3 e (by simpa using he) hb]

/-- if nothing is ready, all is done -/
theorem all_done (ok : DOk P n ops bef ord) {listed : Array Bool} (hs : listed.size = ops.size) (h : Region.ready .any ops listed = []) : ∀ (N i : Nat), i < N → i < ops.size → listed.getD i false = true := by
  intro N
  induction N with
  | zero => intro i h; omega
  | succ N ih =>
    intro i hi hlt
    have ho : ops[i]? = some ops[i] := by simp [hlt]
    cases hl : listed.getD i true with
    | true =>
      rw [Array.getD_eq_getD_getElem?] at hl ⊢
      have : i < listed.size := by omega
      simp only [Array.getElem?_eq_getElem this, Option.getD_some] at hl ⊢
      exact hl
    | false =>
      have := ready_mem ho hl fun e he hb => ih e.on (by have := ok.edge i _ ho e he hb; omega) (by have := ok.edge i _ ho e he hb; omega)
      rw [h] at this; cases this

theorem mem_ord (ok : DOk P n ops bef ord) {m : Nat} (hl : ord.length = m) (hlt : ∀ j ∈ ord, j < m) {i : Nat} (hi : i < m) : i ∈ ord := by
  by_cases h : i ∈ ord
  · exact h
  · have h1 : (i :: ord).Pairwise fun i j => i ≠ j := List.pairwise_cons.2 ⟨fun j hj e => h (e ▸ hj), ok.nodup⟩
    have := nodup_len (l₂ := List.range m) h1 fun x hx => by
      rcases List.mem_cons.1 hx with rfl | hx
      · exact List.mem_range.2 hi
      · exact List.mem_range.2 (hlt x hx)
    simp only [List.length_cons, hl, List.length_range] at this
    omega

theorem getD_set {listed : Array Bool} {i j : Nat} (hi : i < listed.size) : (listed.setIfInBounds i true).getD j false = addX (fun j => listed.getD j false) i j := by
  simp only [addX, Array.getD_eq_getD_getElem?, Array.getElem?_setIfInBounds]
  by_cases e : i = j
  · subst e; simp [hi]
  · have : (j == i) = false := by simpa using Ne.symm e
    simp [e, this]

/-- in whatever order: with the end, or with a panic -/
theorem any_wp (G : Glob P rec n ops bef base ord s0 fin lg) (hrec : RecOk P rec) (h0 : ∀ b, base ≤ b → b < base + ops.size → β0 b = none) (hm : C0.next = base) {Q : Exit → Act → World → Prop} {ip : Option Nat} {tl : Nat → Prop}
    (hcov : ∀ i, i < ops.size → (∃ e ∈ lg, e.i = i) ∨ (∃ j, ip = some j ∧ (i = j ∨ befB bef i j = true)) ∨ tl i) (hip : ∀ j, ip = some j → j < ops.size ∧ ¬ ∃ e ∈ lg, e.i = j)
    (htl : ∀ i, tl i → ip = none ∧ ∀ o, ops[i]? = some o → ∀ e ∈ lg, ∃ d ∈ o.after.toList, Region.binds .any d = true ∧ d.on = e.i)
    (hend : ip = none → ∀ fuel listed β a w, listed.size = ops.size → (∀ e ∈ lg, listed.getD e.i false = true) → (∀ i, listed.getD i false = true → ∃ e ∈ lg, e.i = i) → ops.size ≤ (List.range ops.size).countP (fun i => listed.getD i false) + fuel → Ext β0 C0 w0 β fin.C w → ARel β n ⟨fin.T, fin.dfs⟩ a → wpAny P .any ops Q fuel listed a w)
    (hpnc : ∀ j, ip = some j → ∀ {X : Nat → Bool} {a : Act} {w : World} {β : Ren} {lA lB : List Ent} {s : DSt} {o : Oper} {Kc : Act → World → Prop}, Core P rec n ops bef base β0 C0 w0 s0 fin lg X a w β lA lB s → ops[j]? = some o → X j = false → (∀ e ∈ o.after.toList, Region.binds .any e = true → X e.on = true) → wpOp P ops Q j Kc a w) :
    ∀ (fuel : Nat) (listed : Array Bool) (a : Act) (w : World) (β : Ren) (lA lB : List Ent) (s : DSt), listed.size = ops.size → ops.size ≤ (List.range ops.size).countP (fun i => listed.getD i false) + fuel →
      Core P rec n ops bef base β0 C0 w0 s0 fin lg (fun i => listed.getD i false) a w β lA lB s → wpAny P .any ops Q fuel listed a w := by
  have over : ∀ {fuel : Nat} {listed : Array Bool} {a : Act} {w : World} {β : Ren} {lA lB : List Ent} {s : DSt}, ip = none → listed.size = ops.size → ops.size ≤ (List.range ops.size).countP (fun i => listed.getD i false) + fuel → Core P rec n ops bef base β0 C0 w0 s0 fin lg (fun i => listed.getD i false) a w β lA lB s → (∀ e ∈ lg, listed.getD e.i false = true) → wpAny P .any ops Q fuel listed a w := by
    intro fuel listed a w β lA lB s hnone hs hcount K hall
    obtain ⟨h1, h2⟩ := core_end G h0 hm K hall
    exact hend hnone fuel listed β a w hs hall (fun i hi => K.subX i hi) hcount h1 h2
  have nopanic : ∀ {listed : Array Bool} {a : Act} {w : World} {β : Ren} {lA lB : List Ent} {s : DSt}, Core P rec n ops bef base β0 C0 w0 s0 fin lg (fun i => listed.getD i false) a w β lA lB s → (∀ i, i < ops.size → listed.getD i false = true) → ip = none := by
    intro listed a w β lA lB s K hall
    cases hj : ip with
    | none => rfl
    | some j =>
      obtain ⟨h1, h2⟩ := hip j hj
      exact absurd (K.subX j (hall j h1)) h2
  intro fuel
  induction fuel with
  | zero =>
    intro listed a w β lA lB s hs hcount K
    have hall : ∀ i, i < ops.size → listed.getD i false = true := by
      intro i hi
      have hc : (List.range ops.size).countP (fun i => listed.getD i false) = (List.range ops.size).length := by
        have := List.countP_le_length (p := fun i => listed.getD i false) (l := List.range ops.size)
        simp only [List.length_range] at this ⊢
        omega
      exact List.countP_eq_length.1 hc i (List.mem_range.2 hi)
    exact over (nopanic K hall) hs hcount K fun e he => hall e.i (G.lt he)
  | succ fuel ih =>
    intro listed a w β lA lB s hs hcount K
    by_cases hall : ip = none ∧ ∀ e ∈ lg, listed.getD e.i false = true
    · exact over hall.1 hs hcount K hall.2
    refine ⟨fun hr => absurd ?_ hall, fun i hi => ?_⟩
    · have hd : ∀ i, i < ops.size → listed.getD i false = true := fun i hi => all_done G.ok hs hr (i + 1) i (by omega) hi
      exact ⟨nopanic K hd, fun e he => hd e.i (G.lt he)⟩
    obtain ⟨h1, h2, o, ho, hed⟩ := ready_spec hi
    have hnot : listed.getD i false = false := by
      rw [Array.getD_eq_getD_getElem?] at h2 ⊢
      have : i < listed.size := by omega
      simp only [Array.getElem?_eq_getElem this, Option.getD_some] at h2 ⊢
      exact h2
    rcases hcov i h1 with ⟨e, he, hei⟩ | ⟨j, hj, hij⟩ | ht
    · refine core_step G hrec h0 hm K ho hnot hed he hei ?_
      intro a' w' β' lA' lB' s' K'
      have heq : (fun j => (listed.setIfInBounds i true).getD j false) = addX (fun j => listed.getD j false) i := funext fun j => getD_set (by omega)
      refine ih _ a' w' β' lA' lB' s' (by simp [hs]) ?_ (by rw [heq]; exact K')
      rw [heq, count_add List.nodup_range (List.mem_range.2 h1) hnot]
      omega
    · rcases hij with rfl | hb
      · exact hpnc i hj K ho hnot hed
      · have hXlt : ∀ j, listed.getD j false = true → j < ops.size := fun j hj => by
          obtain ⟨e', he', rfl⟩ := K.subX j hj; exact G.lt he'
        have := bef_done G.ok K.closedX hXlt (i + 1) i o (by omega) ho hed j (hip j hj).1 hb
        exact absurd (K.subX j this) (hip j hj).2
    · obtain ⟨t1, t2⟩ := htl i ht
      refine absurd ⟨t1, fun e he => ?_⟩ hall
      obtain ⟨d, hd, hd1, hd2⟩ := t2 o ho e he
      rw [← hd2]; exact hed d hd hd1

/-! ## the tail -/
theorem Ext.congr {β β' : Ren} {C D D' : CS} {w w' : World} (h : Ext β C w β' D w') (hg : ∀ b, D'.get b = D.get b) (hn : D'.next = D.next) (hl : D'.lim = D.lim) (hb : D'.base = D.base) : Ext β C w β' D' w' := by
  have hlive : ∀ b, D'.Live b ↔ D.Live b := fun b => by unfold CS.Live; rw [hg]
  exact ⟨h.le, ⟨fun b i x h1 h2 => h.rel.rel b i x h1 (by rw [← hg]; exact h2), h.rel.lt, fun b c i j h1 h2 h3 => by rw [hg, hg]; exact h.rel.inj b c i j h1 h2 h3, fun b h1 h2 => h.rel.fresh b (by rw [← hn]; exact h1) (by rw [← hl]; exact h2)⟩,
    h.size, h.frame, h.old, fun b i h1 h2 h3 => h.dead b i h1 h2 ((hlive b).1 h3), by rw [hn]; exact h.next, fun b i h1 => by rw [hn]; exact h.names b i h1, hl.trans h.lim, hb.trans h.base, h.tape, h.os, h.out⟩

theorem wr_swap {C C2 C3 : CS} {b c o q : Nat} {us vs : List Value} (h1 : C.wr b o us = some C2) (h2 : C2.wr c q vs = some C3) (hbc : b ≠ c) :
    ∃ D2 D3, C.wr c q vs = some D2 ∧ D2.wr b o us = some D3 ∧ (∀ e, D3.get e = C3.get e) ∧ D3.next = C3.next ∧ D3.lim = C3.lim ∧ D3.base = C3.base := by
  unfold CS.wr at h1
  split at h1
  · rename_i k1
    split at h1
    · rename_i cs es fz g1
      split at h1
      · rename_i k2
        simp only [Option.some.injEq] at h1; subst h1
        unfold CS.wr at h2
        split at h2
        · rename_i k3
          rw [CS.get_put k1.1, if_neg (Ne.symm hbc)] at h2
          split at h2
          · rename_i ds es' fz' g2
            split at h2
            · rename_i k4
              simp only [Option.some.injEq] at h2; subst h2
              refine ⟨C.put c (.cells (ds.take q ++ vs ++ ds.drop (q + vs.length)) es' fz'), (C.put c (.cells (ds.take q ++ vs ++ ds.drop (q + vs.length)) es' fz')).put b (.cells (cs.take o ++ us ++ cs.drop (o + us.length)) es fz), ?_, ?_, ?_, rfl, rfl, rfl⟩
              · unfold CS.wr; rw [if_pos k3, g2]; dsimp only; rw [if_pos k4]
              · unfold CS.wr; rw [if_pos k1, CS.get_put k3.1, if_neg hbc, g1]; dsimp only; rw [if_pos k2]
              · intro e
                rw [CS.get_put k1.1, CS.get_put k3.1, CS.get_put k3.1, CS.get_put k1.1]
                by_cases e1 : e = b
                · subst e1; rw [if_pos rfl, if_neg hbc, if_pos rfl]
                · rw [if_neg e1, if_neg e1]
            · cases h2
          · cases h2
        · cases h2
      · cases h1
    · cases h1
  · cases h1

theorem evOp_store {T : Tr Value} {dfs : List (FuncId × Array Value × Array Value)} {C D : CS} {t ty : TypeId} {a x : Operand} {p v : Value} {pos : String} {e : Array Edge} (ha : opd T a = some p) (hx : opd T x = some v) (hc : cstore P C t p v = some D) :
    evOp P rec n ops ⟨none, .store t a x, ty, pos, e, none⟩ ⟨T, dfs⟩ C = some (.next ⟨T, dfs⟩ D) := by
  have h1 : rho T a = p := by unfold rho; rw [ha]; rfl
  have h2 : rho T x = v := by unfold rho; rw [hx]; rfl
  have hk : known T ⟨none, .store t a x, ty, pos, e, none⟩ = true := by
    unfold known; simp [Op.operands, ha, hx]
  simp only [evOp, cwanted, hk, if_true, cop, h1, h2, hc, Option.map_some, tput]

theorem evOp_index {T : Tr Value} {dfs : List (FuncId × Array Value × Array Value)} {C : CS} {d : Tmp} {t ty : TypeId} {x i : Operand} {vx vi v : Value} {pos : String} {e : Array Edge} (hx : opd T x = some vx) (hi : opd T i = some vi) (hc : cindexAt P t vx vi = some v) :
    evOp P rec n ops ⟨some d, .indexAddr t x i, ty, pos, e, none⟩ ⟨T, dfs⟩ C = some (.next ⟨tput n T (some d) v, dfs⟩ C) := by
  have h1 : rho T x = vx := by unfold rho; rw [hx]; rfl
  have h2 : rho T i = vi := by unfold rho; rw [hi]; rfl
  have hk : known T ⟨some d, .indexAddr t x i, ty, pos, e, none⟩ = true := by
    unfold known; simp [Op.operands, hx, hi]
  simp only [evOp, cwanted, hk, if_true, cop, h1, h2, hc, cvs, Option.map_some]

theorem tailed_spec {r : Tmp × TypeId × Operand × Operand × TypeId × Operand × Operand × TypeId × Operand × Operand} (h : tailed ops = some r) :
    3 ≤ ops.size ∧ ∃ y1 y2 y3 p1 p2 p3 e1 e2 e3, ops[ops.size - 3]? = some ⟨some r.1, .indexAddr r.2.1 r.2.2.1 r.2.2.2.1, y1, p1, e1, none⟩ ∧ ops[ops.size - 2]? = some ⟨none, .store r.2.2.2.2.1 r.2.2.2.2.2.1 r.2.2.2.2.2.2.1, y2, p2, e2, none⟩ ∧
      ops[ops.size - 1]? = some ⟨none, .store r.2.2.2.2.2.2.2.1 r.2.2.2.2.2.2.2.2.1 r.2.2.2.2.2.2.2.2.2, y3, p3, e3, none⟩ ∧
      (∃ d ∈ e2.toList, Region.binds .any d = true ∧ d.on = ops.size - 3) ∧ (∀ d ∈ e3.toList, Region.binds .any d = true → d.on ≠ ops.size - 3 ∧ d.on ≠ ops.size - 2) := by
  unfold tailed at h
  split at h
  · rename_i h3
    split at h
    · rename_i d t x i y1 p1 e1 t2 a2 x2 y2 p2 e2 t3 a3 x3 y3 p3 e3 g1 g2 g3
      split at h
      · rename_i hc
        simp only [Option.some.injEq] at h; subst h
        simp only [Bool.and_eq_true, Bool.not_eq_true'] at hc
        refine ⟨h3, y1, y2, y3, p1, p2, p3, e1, e2, e3, g1, g2, g3, ?_, ?_⟩
        · obtain ⟨k, hk, hk2⟩ := Array.any_eq_true.1 hc.1
          simp only [Bool.and_eq_true, beq_iff_eq] at hk2
          exact ⟨e2[k], by simp, hk2.1, hk2.2⟩
        · intro d hd hb
          have := hc.2
          rw [Array.any_eq_false] at this
          obtain ⟨k, hk, rfl⟩ := List.mem_iff_getElem.1 hd
          have := this k (by simpa using hk)
          simp only [Array.getElem_toList] at hb ⊢
          simp only [hb, Bool.true_and, Bool.or_eq_true, beq_iff_eq, not_or] at this
          exact this
      · cases h
    · cases h
  · cases h

theorem notTmp_opd {T : Tr Value} {d : Tmp} {v : Value} {x : Operand} (hn : n < 2 ^ 20) (h : notTmp d x = true) : opd (tput n T (some d) v) x = opd T x := by
  cases x with
  | tmp t =>
    simp only [opd]
    rw [tput_get hn]
    have : d ≠ t := by
      intro e; subst e
      simp [notTmp] at h
    rw [if_neg (by simp [this])]
  | _ => rfl

theorem listed_done {listed : Array Bool} {Q : Exit → Act → World → Prop} {a : Act} {w : World} (hall : ∀ i, i < ops.size → listed.getD i false = true) (hs : listed.size = ops.size) (hQ : Q .normal a w) : ∀ fuel, wpAny P .any ops Q fuel listed a w := by
  have hr : Region.ready .any ops listed = [] := by
    cases hr : Region.ready .any ops listed with
    | nil => rfl
    | cons i is =>
      obtain ⟨h1, h2, _⟩ := ready_spec (ops := ops) (listed := listed) (i := i) (by rw [hr]; simp)
      have h3 := hall i h1
      rw [Array.getD_eq_getD_getElem?] at h2 h3
      have : i < listed.size := by omega
      simp only [Array.getElem?_eq_getElem this, Option.getD_some] at h2 h3
      rw [h2] at h3; cases h3
  intro fuel
  cases fuel with
  | zero => exact ⟨hr, hQ⟩
  | succ k => exact ⟨fun _ => hQ, fun i hi => by rw [hr] at hi; cases hi⟩

theorem getD_of {listed : Array Bool} {i : Nat} (h : listed.getD i true = false) (hi : i < listed.size) : listed.getD i false = false := by
  rw [Array.getD_eq_getD_getElem?] at h ⊢
  simp only [Array.getElem?_eq_getElem hi, Option.getD_some] at h ⊢
  exact h

/-- the tail, in whatever order -/
theorem tail_wp (hn : n < 2 ^ 20) (hrec : RecOk P rec) (ok : DOk P n ops bef ord) {T T' : Tr Value} {dfs : List (FuncId × Array Value × Array Value)} {C C' : CS} (htl : (tailed ops).isSome = true) (hev : evTail P n ops T C = some (T', C')) {Q : Exit → Act → World → Prop} {β : Ren} {a : Act} {w : World} {listed : Array Bool} {fuel : Nat}
    (hA : ARel β n ⟨T, dfs⟩ a) (hW : WRel β C w) (hs : listed.size = ops.size) (hpre : ∀ i, i < ops.size - 3 → listed.getD i false = true) (hrest : ∀ i, listed.getD i false = true → i < ops.size - 3) (hf : 3 ≤ fuel)
    (hQ : ∀ β' a' w', Ext β C w β' C' w' → ARel β' n ⟨T', dfs⟩ a' → Q .normal a' w') : wpAny P .any ops Q fuel listed a w := by
  obtain ⟨⟨d, t, x, i, t2, a2, x2, t3, a3, x3⟩, ht⟩ := Option.isSome_iff_exists.1 htl
  obtain ⟨h3, y1, y2, y3, p1, p2, p3, e1, e2, e3, g1, g2, g3, hd2, hd3⟩ := tailed_spec ht
  dsimp only at g1 g2 g3
  generalize hm : ops.size - 3 = m at *
  have hm2 : ops.size - 2 = m + 1 := by omega
  have hm1 : ops.size - 1 = m + 2 := by omega
  rw [hm2] at g2 hd3; rw [hm1] at g3
  have hsz : ops.size = m + 3 := by omega
  unfold evTail at hev
  rw [ht] at hev
  dsimp only at hev
  split at hev
  · rename_i vx vi q3 v3 hx hi ha3 hx3
    split at hev
    · rename_i v hv
      split at hev
      · rename_i b2 o2 v2 b3 o3 ha2 hx2
        split at hev
        · rename_i hc
          simp only [Bool.and_eq_true, Bool.not_eq_true'] at hc
          obtain ⟨⟨n3, nx3⟩, hbb⟩ := hc
          have hbb : b2 ≠ b3 := fun e => by subst e; simp at hbb
          split at hev
          · rename_i C2 hs2
            simp only [Option.map_eq_some_iff, Prod.mk.injEq] at hev
            obtain ⟨C3, hs3, rfl, rfl⟩ := hev
            -- the stores the other way
            have w2 := hs2; have w3 := hs3
            unfold cstore at w2 w3
            dsimp only at w2 w3
            split at w2
            · rename_i z2
              split at w3
              · rename_i z3
                obtain ⟨D2, D3, k1, k2, k3, k4, k5, k6⟩ := wr_swap w2 w3 hbb
                have s3 : cstore P C t3 (.pointer (some ⟨b3, o3, none⟩)) v3 = some D2 := by unfold cstore; dsimp only; rw [if_pos z3]; exact k1
                have s2 : cstore P D2 t2 (.pointer (some ⟨b2, o2, none⟩)) v2 = some D3 := by unfold cstore; dsimp only; rw [if_pos z2]; exact k2
                have ha3' : opd (tput n T (some d) v) a3 = some (.pointer (some ⟨b3, o3, none⟩)) := by rw [notTmp_opd hn n3]; exact ha3
                have hx3' : opd (tput n T (some d) v) x3 = some v3 := by rw [notTmp_opd hn nx3]; exact hx3
                have fin : ∀ {β' : Ren} {a' : Act} {w' : World}, Ext β C w β' D3 w' → ARel β' n ⟨tput n T (some d) v, dfs⟩ a' → Q .normal a' w' := fun hE hA' => hQ _ _ _ (hE.congr (fun b => (k3 b).symm) k4.symm k5.symm k6.symm) hA'
                -- lists
                have rd : ∀ {l : Array Bool} {j : Nat}, l.size = ops.size → j ∈ Region.ready .any ops l → j < m + 3 ∧ l.getD j false = false ∧ ∀ o, ops[j]? = some o → ∀ e ∈ o.after.toList, Region.binds .any e = true → l.getD e.on false = true := by
                  intro l j hl hj
                  obtain ⟨r1, r2, o, r3, r4⟩ := ready_spec hj
                  refine ⟨by omega, getD_of r2 (by omega), fun o' ho' => ?_⟩
                  rw [r3] at ho'; cases ho'; exact r4
                have mk : ∀ {l : Array Bool} {j : Nat} {o : Oper}, l.size = ops.size → ops[j]? = some o → l.getD j false = false → (∀ e ∈ o.after.toList, Region.binds .any e = true → l.getD e.on false = true) → Region.ready .any ops l ≠ [] := by
                  intro l j o hl ho h1 h2 h
                  have hlt : j < ops.size := lt_of_some ho
                  have : j ∈ Region.ready .any ops l := ready_mem ho (by
                    rw [Array.getD_eq_getD_getElem?] at h1 ⊢
                    have : j < l.size := by omega
                    simp only [Array.getElem?_eq_getElem this, Option.getD_some] at h1 ⊢
                    exact h1) h2
                  rw [h] at this; cases this
                have gset : ∀ {l : Array Bool} {j : Nat} (k : Nat), l.size = ops.size → j < m + 3 → (l.setIfInBounds j true).getD k false = (k == j || l.getD k false) := by
                  intro l j k hl hj
                  rw [getD_set (by omega)]
                  simp only [addX]
                  cases (k == j) <;> simp
                obtain ⟨f, rfl⟩ : ∃ f, fuel = f + 3 := ⟨fuel - 3, by omega⟩
                have n0 : ∀ k, m ≤ k → listed.getD k false = false := fun k hk => by
                  cases hl : listed.getD k false with
                  | false => rfl
                  | true => have := hrest k hl; omega
                have ge1 : ∀ e ∈ e1.toList, Region.binds .any e = true → e.on < m := fun e he hb => ok.edge m _ g1 e he hb
                have ge2 : ∀ e ∈ e2.toList, Region.binds .any e = true → e.on < m + 1 := fun e he hb => ok.edge (m + 1) _ g2 e he hb
                have ge3 : ∀ e ∈ e3.toList, Region.binds .any e = true → e.on < m := fun e he hb => by
                  have h1 := ok.edge (m + 2) _ g3 e he hb
                  have h2 := hd3 e he hb
                  omega
                obtain ⟨dd, hdd, hdb, hdo⟩ := hd2
                have step : ∀ {l : Array Bool} {j : Nat} {o : Oper} {k : Nat} {A A2 : CAct} {E E2 : CS} {γ : Ren} {b : Act} {u : World}, ops[j]? = some o → evOp P rec n ops o A E = some (.next A2 E2) → ARel γ n A b → WRel γ E u →
                    (∀ β' a' w', Ext γ E u β' E2 w' → ARel β' n A2 a' → wpAny P .any ops Q k (l.setIfInBounds j true) a' w') → wpOp P ops Q j (wpAny P .any ops Q k (l.setIfInBounds j true)) b u :=
                  fun ho he hA hW hK => evOp_wp hn hrec ho he hA hW (fun A' D β' a' w' heq hE hA' => by cases heq; exact hK β' a' w' hE hA') (fun v A' D β' e a' w' heq => by cases heq)
                have pre : ∀ {l : Array Bool}, (∀ k, k < m → l.getD k false = true) → ∀ {j : Nat}, l.getD j false = false → j < m + 3 → j = m ∨ j = m + 1 ∨ j = m + 2 := by
                  intro l hl j h1 h2
                  by_cases h : j < m
                  · rw [hl j h] at h1; cases h1
                  · omega
                have s1 : ∀ {l : Array Bool} (j : Nat), l.size = ops.size → (l.setIfInBounds j true).size = ops.size := fun j h => by simp [h]
                have p1 : ∀ {l : Array Bool} {j : Nat}, l.size = ops.size → j < m + 3 → (∀ k, k < m → l.getD k false = true) → ∀ k, k < m → (l.setIfInBounds j true).getD k false = true := by
                  intro l j hl hj h k hk
                  rw [gset k hl hj, h k hk]; simp
                -- the end
                have done : ∀ {l : Array Bool} {k : Nat} {b : Act} {u : World}, l.size = ops.size → (∀ k, k < m → l.getD k false = true) → l.getD m false = true → l.getD (m + 1) false = true → l.getD (m + 2) false = true → Q .normal b u → wpAny P .any ops Q k l b u := by
                  intro l k b u hl h0 h1 h2 h3 hq
                  refine listed_done (fun i hi => ?_) hl hq k
                  by_cases hi' : i < m
                  · exact h0 i hi'
                  · have : i = m ∨ i = m + 1 ∨ i = m + 2 := by omega
                    rcases this with rfl | rfl | rfl <;> assumption
                refine ⟨fun h => absurd h (mk hs g1 (n0 m (Nat.le_refl _)) fun e he hb => hpre _ (ge1 e he hb)), fun j hj => ?_⟩
                obtain ⟨r1, r2, r3⟩ := rd hs hj
                rcases pre hpre r2 r1 with rfl | rfl | rfl
                · -- the place first
                  refine step g1 (evOp_index hx hi hv) hA hW fun β1 a1 w1 hE1 hA1 => ?_
                  have q1 := p1 hs r1 hpre
                  have z1 := s1 j hs
                  have v0 : (listed.setIfInBounds j true).getD j false = true := by rw [gset j hs r1]; simp
                  have v1 : (listed.setIfInBounds j true).getD (j + 1) false = false := by rw [gset (j + 1) hs r1, n0 (j + 1) (by omega)]; simp
                  have v2 : (listed.setIfInBounds j true).getD (j + 2) false = false := by rw [gset (j + 2) hs r1, n0 (j + 2) (by omega)]; simp
                  generalize listed.setIfInBounds j true = l1 at q1 z1 v0 v1 v2 ⊢
                  refine ⟨fun h => absurd h (mk z1 g2 v1 fun e he hb => ?_), fun k hk => ?_⟩
                  · have := ge2 e he hb
                    by_cases hej : e.on = j
                    · rw [hej]; exact v0
                    · exact q1 _ (by omega)
                  obtain ⟨r4, r5, r6⟩ := rd z1 hk
                  rcases pre q1 r5 r4 with h | h | h
                  · subst h; rw [v0] at r5; cases r5
                  · subst h
                    refine step g2 (evOp_store ha2 hx2 hs2) hA1 hE1.rel fun β2 a2 w2 hE2 hA2 => ?_
                    have q2 := p1 z1 r4 q1
                    have z2 := s1 (j + 1) z1
                    have u0 : (l1.setIfInBounds (j + 1) true).getD j false = true := by rw [gset j z1 r4, v0]; simp
                    have u1 : (l1.setIfInBounds (j + 1) true).getD (j + 1) false = true := by rw [gset (j + 1) z1 r4]; simp
                    have u2 : (l1.setIfInBounds (j + 1) true).getD (j + 2) false = false := by rw [gset (j + 2) z1 r4, v2]; simp
                    generalize l1.setIfInBounds (j + 1) true = l2 at q2 z2 u0 u1 u2 ⊢
                    refine ⟨fun h => absurd h (mk z2 g3 u2 fun e he hb => q2 _ (ge3 e he hb)), fun k hk => ?_⟩
                    obtain ⟨r7, r8, _⟩ := rd z2 hk
                    rcases pre q2 r8 r7 with h | h | h
                    · subst h; rw [u0] at r8; cases r8
                    · subst h; rw [u1] at r8; cases r8
                    · subst h
                      refine step g3 (evOp_store ha3' hx3' hs3) hA2 hE2.rel fun β3 a3 w3 hE3 hA3 => ?_
                      exact done (s1 _ z2) (p1 z2 r7 q2) (by rw [gset j z2 r7, u0]; simp) (by rw [gset (j + 1) z2 r7, u1]; simp) (by rw [gset (j + 2) z2 r7]; simp) (hQ _ _ _ ((hE1.trans hE2).trans hE3) hA3)
                  · subst h
                    refine step g3 (evOp_store ha3' hx3' s3) hA1 hE1.rel fun β2 a2 w2 hE2 hA2 => ?_
                    have q2 := p1 z1 r4 q1
                    have z2 := s1 (j + 2) z1
                    have u0 : (l1.setIfInBounds (j + 2) true).getD j false = true := by rw [gset j z1 r4, v0]; simp
                    have u1 : (l1.setIfInBounds (j + 2) true).getD (j + 1) false = false := by rw [gset (j + 1) z1 r4, v1]; simp
                    have u2 : (l1.setIfInBounds (j + 2) true).getD (j + 2) false = true := by rw [gset (j + 2) z1 r4]; simp
                    generalize l1.setIfInBounds (j + 2) true = l2 at q2 z2 u0 u1 u2 ⊢
                    refine ⟨fun h => absurd h (mk z2 g2 u1 fun e he hb => ?_), fun k hk => ?_⟩
                    · have := ge2 e he hb
                      by_cases hej : e.on = j
                      · rw [hej]; exact u0
                      · exact q2 _ (by omega)
                    obtain ⟨r7, r8, _⟩ := rd z2 hk
                    rcases pre q2 r8 r7 with h | h | h
                    · subst h; rw [u0] at r8; cases r8
                    · subst h
                      refine step g2 (evOp_store ha2 hx2 s2) hA2 hE2.rel fun β3 a3 w3 hE3 hA3 => ?_
                      exact done (s1 _ z2) (p1 z2 r7 q2) (by rw [gset j z2 r7, u0]; simp) (by rw [gset (j + 1) z2 r7]; simp) (by rw [gset (j + 2) z2 r7, u2]; simp) (fin ((hE1.trans hE2).trans hE3) hA3)
                    · subst h; rw [u2] at r8; cases r8
                · have := r3 _ g2 dd hdd hdb
                  rw [hdo, n0 m (Nat.le_refl _)] at this; cases this
                · -- the variable first
                  refine step g3 (evOp_store ha3 hx3 s3) hA hW fun β1 a1 w1 hE1 hA1 => ?_
                  have q1 := p1 hs r1 hpre
                  have z1 := s1 (m + 2) hs
                  have v0 : (listed.setIfInBounds (m + 2) true).getD m false = false := by rw [gset m hs r1, n0 m (Nat.le_refl _)]; simp
                  have v1 : (listed.setIfInBounds (m + 2) true).getD (m + 1) false = false := by rw [gset (m + 1) hs r1, n0 (m + 1) (by omega)]; simp
                  have v2 : (listed.setIfInBounds (m + 2) true).getD (m + 2) false = true := by rw [gset (m + 2) hs r1]; simp
                  generalize listed.setIfInBounds (m + 2) true = l1 at q1 z1 v0 v1 v2 ⊢
                  refine ⟨fun h => absurd h (mk z1 g1 v0 fun e he hb => q1 _ (ge1 e he hb)), fun k hk => ?_⟩
                  obtain ⟨r4, r5, r6⟩ := rd z1 hk
                  rcases pre q1 r5 r4 with h | h | h
                  · subst h
                    refine step g1 (evOp_index hx hi hv) hA1 hE1.rel fun β2 a2 w2 hE2 hA2 => ?_
                    have q2 := p1 z1 r4 q1
                    have z2 := s1 k z1
                    have u0 : (l1.setIfInBounds k true).getD k false = true := by rw [gset k z1 r4]; simp
                    have u1 : (l1.setIfInBounds k true).getD (k + 1) false = false := by rw [gset (k + 1) z1 r4, v1]; simp
                    have u2 : (l1.setIfInBounds k true).getD (k + 2) false = true := by rw [gset (k + 2) z1 r4, v2]; simp
                    generalize l1.setIfInBounds k true = l2 at q2 z2 u0 u1 u2 ⊢
                    refine ⟨fun h => absurd h (mk z2 g2 u1 fun e he hb => ?_), fun j hj => ?_⟩
                    · have := ge2 e he hb
                      by_cases hej : e.on = k
                      · rw [hej]; exact u0
                      · exact q2 _ (by omega)
                    obtain ⟨r7, r8, _⟩ := rd z2 hj
                    rcases pre q2 r8 r7 with h | h | h
                    · subst h; rw [u0] at r8; cases r8
                    · subst h
                      refine step g2 (evOp_store ha2 hx2 s2) hA2 hE2.rel fun β3 a3 w3 hE3 hA3 => ?_
                      exact done (s1 _ z2) (p1 z2 r7 q2) (by rw [gset k z2 r7, u0]; simp) (by rw [gset (k + 1) z2 r7]; simp) (by rw [gset (k + 2) z2 r7, u2]; simp) (fin ((hE1.trans hE2).trans hE3) hA3)
                    · subst h; rw [u2] at r8; cases r8
                  · subst h
                    have := r6 _ g2 dd hdd hdb
                    rw [hdo, v0] at this; cases this
                  · subst h; rw [v2] at r5; cases r5
              · cases w3
            · cases w2
          · cases hev
        · cases hev
      · cases hev
    · cases hev
  · cases hev

theorem evDrawn_wp {id : Nat} {A A' : CAct} {C C' : CS} {x : CExit} {Q : Exit → Act → World → Prop} (hmix : P.follows .mixedOrders = true) (hn : n < 2 ^ 20) (hrec : RecOk P rec) (hdr : drawOk P n ops = true) (hev : evDrawn P rec n ops A C = some (x, A', C')) (hA : ARel β n A a) (hW : WRel β C w)
    (hQ : ∀ e a' w', XPost β C w n x A' C' e a' w' → Q e a' w') : (Code.region id ops true).wp P Q a w := by
  unfold evDrawn at hev
  split at hev
  · rename_i hlim
    unfold drawOk at hdr
    simp only [Bool.and_eq_true, beq_iff_eq, List.all_eq_true, Bool.or_eq_true] at hdr
    obtain ⟨⟨⟨hok, hsm⟩, hlen⟩, htail⟩ := hdr
    have hpl : prefLen ops ≤ ops.size := by unfold prefLen; split <;> omega
    have hordlt : ∀ j ∈ ordOf P ops, j < prefLen ops := fun j hj => by
      have := (List.mem_filter.1 hj).2
      simpa using this
    have htl : ∀ i, i < ops.size → prefLen ops ≤ i → ∀ j, j < prefLen ops → (∀ o, ops[i]? = some o → ∃ d ∈ o.after.toList, Region.binds .any d = true ∧ d.on = j) ∧ befB (Region.before ops) i j = true := by
      intro i hi h1 j hj
      rcases htail i (List.mem_range.2 hi) with h | h
      · have := Nat.le_of_ble_eq_true h; omega
      · have := h j (List.mem_range.2 hj)
        split at this
        · rename_i o ho
          simp only [Bool.and_eq_true] at this
          refine ⟨fun o' ho' => ?_, this.2⟩
          rw [ho] at ho'; cases ho'
          obtain ⟨k, hk, hk2⟩ := Array.any_eq_true.1 this.1
          simp only [Bool.and_eq_true, beq_iff_eq] at hk2
          exact ⟨o.after[k], by simp, hk2.1, hk2.2⟩
        · cases this
    have ok := dok_of (n := n) hok hsm
    refine wp_region_any hmix ?_
    generalize hs0 : ({ T := A.T, C := { C with next := C.next + ops.size }, dfs := A.dfs, st := [{ C with next := C.next + ops.size }] } : DSt) = s0 at hev
    have hC0 : s0.C = { C with next := C.next + ops.size } := by rw [← hs0]
    have hT0 : s0.T = A.T := by rw [← hs0]
    have hd0 : s0.dfs = A.dfs := by rw [← hs0]
    have hst0 : s0.st = [s0.C] := by rw [← hs0]
    have h0 : ∀ b, C.next ≤ b → b < C.next + ops.size → β b = none := fun b h1 h2 => hW.fresh b h1 (by omega)
    have hE0 : Ext β C w β s0.C { w with drawn := w.drawn + 1 } := by
      rw [hC0]
      exact ⟨.refl β, ⟨(hW.of_heap (w' := { w with drawn := w.drawn + 1 }) rfl).rel, hW.lt, hW.inj, fun b h1 h2 => hW.fresh b (by have h1' : C.next + ops.size ≤ b := h1; omega) h2⟩, Nat.le_refl _, fun _ _ _ => rfl, fun _ _ h => .inl h, fun _ _ _ h => h, by show C.next ≤ C.next + ops.size; omega, fun _ _ h => .inl h, rfl, rfl, rfl, rfl, rfl⟩
    have start : ∀ {lg : List Ent} {fin : DSt}, Chain P rec n ops (Region.before ops) C.next s0 lg fin → Core P rec n ops (Region.before ops) C.next β C w s0 fin lg (fun i => (Array.replicate ops.size false).getD i false) a { w with drawn := w.drawn + 1 } β [] lg s0 := by
      intro lg fin hc
      have hX : ∀ i, (Array.replicate ops.size false).getD i false = false := by
        intro i
        rw [Array.getD_eq_getD_getElem?]
        by_cases hi : i < ops.size
        · simp [hi]
        · simp [hi]
      refine ⟨rfl, .nil _, hc, fun e h => (by simp at h), fun e _ _ _ _ => hX _, hE0, ⟨[], hst0⟩, fun l e h => ?_, by rw [hC0]; exact Nat.le_refl _, ?_, hA.size, by rw [hd0]; exact hA.dfs, ?_, ?_, ?_, ?_⟩
      · have := congrArg List.length h; simp at this
      · intro t v hv
        rcases hv with ⟨e, _, h, _⟩ | ⟨h, _⟩
        · have h' := hX e.i; exact absurd h (by dsimp only; rw [h']; simp)
        · rw [hT0] at h; exact hA.tmps t v h
      · intro e _ h
        have h' := hX e.i; exact absurd h (by rw [h']; simp)
      · intro i hi _
        exact h0 _ (by omega) (by omega)
      · intro i o _ h
        have h' := hX i; exact absurd h (by rw [h']; simp)
      · intro i h
        have h' := hX i; exact absurd h (by rw [h']; simp)
    have hnx : C.next + ops.size ≤ s0.C.next := by rw [hC0]; exact Nat.le_refl _
    split at hev
    · rename_i lg fin hd
      split at hev
      · rename_i T' D' hte
        simp only [Option.some.injEq, Prod.mk.injEq] at hev
        obtain ⟨rfl, rfl, rfl⟩ := hev
        obtain ⟨hc, hi⟩ := drun_chain hd
        have G : Glob P rec n ops (Region.before ops) C.next _ s0 fin lg := ⟨ok, by rw [hi]; exact List.Sublist.refl _, hc, hn, hst0, hnx⟩
        have hlg : ∀ i, (∃ e ∈ lg, e.i = i) ↔ i < prefLen ops := by
          intro i
          constructor
          · rintro ⟨e, he, rfl⟩
            have : e.i ∈ lg.map (·.i) := List.mem_map.2 ⟨e, he, rfl⟩
            rw [hi] at this
            exact hordlt _ this
          · intro hlt
            have := mem_ord ok hlen hordlt hlt
            rw [← hi] at this
            obtain ⟨e, he, rfl⟩ := List.mem_map.1 this
            exact ⟨e, he, rfl⟩
        refine any_wp (ip := none) (tl := fun i => i < ops.size ∧ prefLen ops ≤ i) G hrec h0 rfl ?_ (fun j h => by cases h) ?_ ?_ (fun j h => by cases h) ops.size _ a _ β [] lg s0 (by simp) (by omega) (start hc)
        · intro i hlt
          by_cases h : i < prefLen ops
          · exact .inl ((hlg i).2 h)
          · exact .inr (.inr ⟨hlt, by omega⟩)
        · rintro i ⟨h1, h2⟩
          exact ⟨rfl, fun o ho e he => (htl i h1 h2 e.i ((hlg e.i).1 ⟨e, he, rfl⟩)).1 o ho⟩
        · intro _ fuel listed β' a' w' hls hall hsub hcount hE hA'
          cases htd : (tailed ops).isSome with
          | false =>
            have hp : prefLen ops = ops.size := by unfold prefLen; rw [htd]; rfl
            have : (T', D') = (fin.T, fin.C) := by
              unfold evTail at hte
              cases htt : tailed ops with
              | some _ => rw [htt] at htd; cases htd
              | none => rw [htt] at hte; exact (Option.some.inj hte).symm
            cases this
            refine listed_done (fun i hi => ?_) hls (hQ _ _ _ ⟨β', hE, hA', trivial⟩) fuel
            obtain ⟨e, he, rfl⟩ := (hlg i).2 (by omega)
            exact hall e he
          | true =>
            obtain ⟨r, hr⟩ := Option.isSome_iff_exists.1 htd
            have h3 := (tailed_spec hr).1
            have hp : prefLen ops = ops.size - 3 := by unfold prefLen; rw [htd]; rfl
            have hcm : (List.range ops.size).countP (fun i => listed.getD i false) ≤ ops.size - 3 := by
              have h1 : (List.range ops.size).countP (fun i => listed.getD i false) ≤ (List.range ops.size).countP (fun i => decide (i < ops.size - 3)) :=
                List.countP_mono_left fun i _ h => by have := (hlg i).1 (hsub i h); rw [hp] at this; simpa using this
              have h2 : ∀ N m : Nat, (List.range N).countP (fun i => decide (i < m)) ≤ m := by
                intro N m
                induction N with
                | zero => simp
                | succ N ih =>
                  rw [List.range_succ, List.countP_append]
                  by_cases h : N < m
                  · have : (List.range N).countP (fun i => decide (i < m)) ≤ N := by
                      have := List.countP_le_length (p := fun i => decide (i < m)) (l := List.range N)
                      simpa using this
                    simp [h]; omega
                  · simp [h]; exact ih
              exact Nat.le_trans h1 (h2 _ _)
            refine tail_wp hn hrec ok htd hte hA' hE.rel hls (fun i hi => ?_) (fun i hi => by have := (hlg i).1 (hsub i hi); omega) (by omega) fun β'' a'' w'' h1 h2 => hQ _ _ _ ⟨β'', hE.trans h1, h2, trivial⟩
            obtain ⟨e, he, rfl⟩ := (hlg i).2 (by omega)
            exact hall e he
      · cases hev
    · rename_i l₁ i sp v D rest l₂ hd
      simp only [Option.some.injEq, Prod.mk.injEq] at hev
      obtain ⟨rfl, rfl, rfl⟩ := hev
      obtain ⟨f, hc1, hds, hc2, hord, hl2⟩ := drun_chain hd
      have hc := hc1.append hc2
      have hsub : ((l₁ ++ l₂).map (·.i)).Sublist (ordOf P ops) := by
        rw [hord, List.map_append, hl2]
        exact (List.Sublist.refl _).append ((List.filter_sublist).cons _)
      have G : Glob P rec n ops (Region.before ops) C.next _ s0 f (l₁ ++ l₂) := ⟨ok, hsub, hc, hn, hst0, hnx⟩
      have hilt : i < ops.size := ok.lt i (by rw [hord]; simp)
      have hno := ok.nodup
      rw [hord, List.pairwise_append] at hno
      have hnotin : ¬ ∃ e ∈ l₁ ++ l₂, e.i = i := by
        rintro ⟨e, he, hei⟩
        rcases List.mem_append.1 he with h | h
        · exact hno.2.2 e.i (List.mem_map.2 ⟨e, h, rfl⟩) i List.mem_cons_self hei
        · have : e.i ∈ l₂.map (·.i) := List.mem_map.2 ⟨e, h, rfl⟩
          rw [hl2] at this
          exact (List.pairwise_cons.1 hno.2.1).1 e.i (List.mem_filter.1 this).1 hei.symm
      refine any_wp (ip := some i) (tl := fun _ => False) G hrec h0 rfl ?_ (fun j h => by cases h; exact ⟨hilt, hnotin⟩) (fun _ h => h.elim) (fun h => by cases h) ?_ ops.size _ a _ β [] (l₁ ++ l₂) s0 (by simp) (by omega) (start hc)
      · intro j hlt
        by_cases hjp : ¬ j < prefLen ops
        · exact .inr (.inl ⟨i, rfl, .inr (htl j hlt (by omega) i (hordlt i (by rw [hord]; simp))).2⟩)
        have := mem_ord ok hlen hordlt (Classical.not_not.1 hjp)
        rw [hord] at this
        rcases List.mem_append.1 this with h | h
        · obtain ⟨e, he, rfl⟩ := List.mem_map.1 h
          exact .inl ⟨e, by simp [he], rfl⟩
        · rcases List.mem_cons.1 h with h | h
          · exact .inr (.inl ⟨i, rfl, .inl h⟩)
          · cases hb : befB (Region.before ops) j i with
            | true => exact .inr (.inl ⟨i, rfl, .inr hb⟩)
            | false =>
              have : j ∈ l₂.map (·.i) := by rw [hl2]; exact List.mem_filter.2 ⟨h, by simp [hb]⟩
              obtain ⟨e, he, rfl⟩ := List.mem_map.1 this
              exact .inl ⟨e, by simp [he], rfl⟩
      · intro j hj X a' w' β' lA lB s o Kc K ho hX hed
        cases hj
        refine core_pnc G hrec h0 rfl K ho hX hed rfl hc1 hds hord hl2 ?_
        intro β'' e w'' h1 h2 h3
        rw [hT0] at h2
        exact hQ _ _ _ ⟨β'', h1, h2, h3⟩
    · cases hev
  · cases hev

end
end Go.Ev

end
