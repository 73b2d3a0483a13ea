/-
  Operators, conversions, struct values.
-/
import Derived.Test.YtednoahjadghnaaDoorVPure
import Derived.Laws.Concat
namespace Go.V
open Go

variable {C : Ctx} {V : View} {σ : St}

/-! ### equality -/
def eqC : PVal → PVal → Option Bool
  | .int k a, .int k' b => if k = k' then some (decide (a = b)) else none
  | .bool a, .bool b => some (decide (a = b))
  | .str a, .str b => some (decide (a = b))
  | _, _ => none
def eqL : List PVal → List PVal → Option Bool
  | [], [] => some true
  | x :: xs, y :: ys => match eqC x y, eqL xs ys with
    | some a, some b => some (a && b)
    | _, _ => none
  | _, _ => none

/-- The kind of a type whose values are compared as one cell: 1 a whole number, 2 a bool, 3 a string. -/
def kq (P : Program) (t : TypeId) : Nat :=
  match P.underlying t with
  | some (.int _) => 1
  | some .bool => 2
  | some .string => 3
  | _ => 0
def kindOf : PVal → Nat
  | .int _ _ => 1
  | .bool _ => 2
  | .str _ => 3
  | _ => 4
def fks (P : Program) : Nat → List Field → Option (List Nat)
  | _, [] => some []
  | i, f :: fs => if f.name != "_" && f.offset == i then (fks P (i + 1) fs).map (kq P f.type :: ·) else none
/-- Of a struct type that is compared field by field, each field one cell: the fields' kinds. -/
def feq (P : Program) (t : TypeId) : Option (List Nat) :=
  match P.underlying t with
  | some (.struct fs) => if P.stoodInHeld t || P.eqGuardType P.depth t then none else fks P 0 fs.toList
  | _ => none

theorem kq_1 {P : Program} {t : TypeId} (h : kq P t = 1) : ∃ k, P.underlying t = some (.int k) := by
  unfold kq at h; split at h <;> first | exact ⟨_, by assumption⟩ | cases h
theorem kq_2 {P : Program} {t : TypeId} (h : kq P t = 2) : P.underlying t = some .bool := by
  unfold kq at h; split at h <;> first | assumption | cases h
theorem kq_3 {P : Program} {t : TypeId} (h : kq P t = 3) : P.underlying t = some .string := by
  unfold kq at h; split at h <;> first | assumption | cases h

theorem eqC_run {P : Program} {t : TypeId} {x y : PVal} {b : Bool} (h : eqC x y = some b) (hk : kq P t = kindOf x) {u v : Value} (hu : Rep V x u) (hv : Rep V y v) (d : Nat) (w : World) :
    (Op.equalIn (d + 1) t u v).run P w = .ok b w := by
  unfold eqC at h
  split at h
  · split at h
    · rename_i e
      cases h; cases hu; cases hv; subst e
      obtain ⟨k', hk'⟩ := kq_1 hk
      rw [run_equalIn_int w d t _ _ _ _ hk']
      congr 1
    · cases h
  · cases h; cases hu; cases hv
    rw [run_equalIn_bool' w d t _ _ (kq_2 hk)]
    rename_i a b
    cases a <;> cases b <;> rfl
  · cases h; cases hu; cases hv
    rw [run_equalIn_string w d t _ _ (kq_3 hk)]
    congr 1
    rw [Bool.eq_iff_iff]
    simp [ByteArray.toList_eq]
  · cases h

theorem eqL_run {P : Program} : ∀ (fs : List Field) (i : Nat) (xs ys : List PVal) (b : Bool) (us vs : Array Value), fks P i fs = some (xs.map kindOf) → eqL xs ys = some b →
    (∀ (j : Nat) (c : PVal), xs[j]? = some c → i + j < us.size ∧ Rep V c (us.getD (i + j) undef)) → (∀ (j : Nat) (c : PVal), ys[j]? = some c → i + j < vs.size ∧ Rep V c (vs.getD (i + j) undef)) →
    ∀ (d : Nat) (w : World), (Op.eqFields (d + 1) us vs fs).run P w = .ok b w
  | [], i, xs, ys, b, us, vs, hp, h, _, _, d, w => by
    cases xs with
    | cons x xs => simp [fks] at hp
    | nil =>
      cases ys with
      | nil => cases h; rfl
      | cons y ys => cases h
  | f :: fs, i, xs, ys, b, us, vs, hp, h, hu, hv, d, w => by
    unfold fks at hp
    split at hp
    case isFalse => cases hp
    rename_i hc
    simp only [Bool.and_eq_true, bne_iff_ne, ne_eq, beq_iff_eq] at hc
    obtain ⟨h1, h2⟩ := hc
    cases xs with
    | nil => simp at hp
    | cons x xs =>
      simp only [List.map_cons, Option.map_eq_some_iff] at hp
      obtain ⟨l, hl, hl2⟩ := hp
      simp only [List.cons.injEq] at hl2
      obtain ⟨hkx, rfl⟩ := hl2
      cases ys with
      | nil => cases h
      | cons y ys =>
        unfold eqL at h
        split at h
        · rename_i a b' ha hb'
          cases h
          obtain ⟨l1, r1⟩ := hu 0 x rfl
          obtain ⟨l2, r2⟩ := hv 0 y rfl
          rw [Nat.add_zero] at l1 r1 l2 r2
          have hisA : ∀ w, (isAgg f.type).run P w = .ok false w := fun w => by
            unfold kq at hkx
            split at hkx
            case h_4 => exfalso; unfold kindOf at hkx; split at hkx <;> cases hkx
            all_goals (rename_i hh; rw [run_isAgg hh])
          have p1 : ∀ (us : Array Value), i < us.size → (part f.type us f.offset).run P w = .ok (us.getD i undef) w := fun us l1 => by
            have : us[i]? = some (us.getD i undef) := by rw [Array.getD_eq_getD_getElem?, Array.getElem?_eq_getElem l1]; rfl
            unfold part
            rw [Sem.run_bind, hisA]
            simp only [Result.andThen_ok, Bool.false_eq_true, if_false, h2, this, Sem.run_pure]
          have he : (Op.equalIn (d + 1) f.type (us.getD i undef) (vs.getD i undef)).run P w = .ok a w := eqC_run ha hkx r1 r2 d w
          have ih := eqL_run fs (i + 1) xs ys b' us vs hl hb' (fun j c hc => by have := hu (j + 1) c hc; rwa [show i + (j + 1) = i + 1 + j by omega] at this)
            (fun j c hc => by have := hv (j + 1) c hc; rwa [show i + (j + 1) = i + 1 + j by omega] at this) d w
          unfold Op.eqFields
          rw [if_pos h1]
          simp only [Sem.run_bind, p1 us l1, p1 vs l2, he, Result.andThen_ok]
          cases a
          · simp
          · simpa using ih
        · cases h

theorem eq_struct_run {P : Program} {t : TypeId} {xs ys : List PVal} {b : Bool} (hf : feq P t = some (xs.map kindOf)) (h : eqL xs ys = some b) {u v : Value} (hu : Rep V (.agg xs) u) (hv : Rep V (.agg ys) v) (w : World) :
    (Op.equal t u v).run P w = .ok b w ∧ ∀ x y, (eqGuard .eql t x y u v).run P w = .ok () w ∧ (eqGuard .neq t x y u v).run P w = .ok () w := by
  unfold feq at hf
  split at hf
  · rename_i fs hfs
    split at hf
    · cases hf
    · rename_i hg
      simp only [Bool.or_eq_true, not_or, Bool.not_eq_true] at hg
      cases hu with
      | agg hl h1 h2 =>
        cases hv with
        | agg hl' h1' h2' =>
          rename_i us vs
          have hfo : P.fieldsOf t = fs := by simp [Program.fieldsOf, hfs]
          constructor
          · unfold Op.equal
            have := run_equalIn_struct w 9999 t us vs (by rw [hfo]; exact hfs) hg.1
            rw [show Op.maxDepth = 9999 + 1 from rfl, this, hfo]
            exact eqL_run fs.toList 0 xs ys b us vs hf h (fun j c hc => by rw [Nat.zero_add]; exact ⟨by rw [hl]; exact (List.getElem?_eq_some_iff.1 hc).1, h2 j c hc⟩)
              (fun j c hc => by rw [Nat.zero_add]; exact ⟨by rw [hl']; exact (List.getElem?_eq_some_iff.1 hc).1, h2' j c hc⟩) 9998 w
          · intro x y
            constructor <;> simp [eqGuard, hg.2]
  · cases hf

/-! ### operators of two operands -/
def wInt (op : BinOp) (k : IntKind) (a : Int) (k' : IntKind) (b : Int) (K : PVal → Prop) : Prop :=
  match op with
  | .add => k = k' ∧ K (.int k (k.wrap (a + b)))
  | .sub => k = k' ∧ K (.int k (k.wrap (a - b)))
  | .mul => k = k' ∧ K (.int k (k.wrap (a * b)))
  | .quo => k = k' ∧ b ≠ 0 ∧ K (.int k (k.wrap (a.tdiv b)))
  | .rem => k = k' ∧ b ≠ 0 ∧ K (.int k (a.tmod b))
  | .and => k = k' ∧ K (.int k (Go.bits .and k a b))
  | .or => k = k' ∧ K (.int k (Go.bits .or k a b))
  | .xor => k = k' ∧ K (.int k (Go.bits .xor k a b))
  | .andNot => k = k' ∧ K (.int k (Go.bits .andNot k a b))
  | .shl => 0 ≤ b ∧ K (.int k (k.wrap (a * 2 ^ min b.toNat k.bits)))
  | .shr => 0 ≤ b ∧ K (.int k (a.fdiv (2 ^ min b.toNat k.bits)))
  | .eql => k = k' ∧ K (.bool (decide (a = b)))
  | .neq => k = k' ∧ K (.bool (!decide (a = b)))
  | .lss => k = k' ∧ K (.bool (decide (a < b)))
  | .leq => k = k' ∧ K (.bool (decide (a ≤ b)))
  | .gtr => k = k' ∧ K (.bool (decide (b < a)))
  | .geq => k = k' ∧ K (.bool (decide (b ≤ a)))
def wStr (op : BinOp) (a b : List UInt8) (K : PVal → Prop) : Prop :=
  match op with
  | .add => a.length + b.length ≤ 9223372036854775807 ∧ K (.str (a ++ b))
  | .eql => K (.bool (decide (a = b)))
  | .neq => K (.bool (!decide (a = b)))
  | .lss => K (.bool (Op.bytesLess a b))
  | .leq => K (.bool (Op.bytesLess a b || decide (a = b)))
  | .gtr => K (.bool (!(Op.bytesLess a b || decide (a = b))))
  | .geq => K (.bool (!Op.bytesLess a b))
  | _ => False
def wEqs (op : BinOp) (b : Bool) (K : PVal → Prop) : Prop :=
  match op with
  | .eql => K (.bool b)
  | .neq => K (.bool (!b))
  | _ => False
def isC : Operand → Bool
  | .const _ => true
  | _ => false
def ifq (P : Program) (t : TypeId) : Bool :=
  match P.underlying t with
  | some (.interface _) => true
  | _ => false
def ptq (P : Program) (t : TypeId) : Bool :=
  match P.underlying t with
  | some (.pointer _) => true
  | _ => false
def wBin (C : Ctx) (op : BinOp) (t : TypeId) (x y : Operand) (p q : PVal) (σ : St) (K : PVal → Prop) : Prop :=
  match p, q with
  | .int k a, .int k' b => wInt op k a k' b K
  | .str a, .str b => wStr op a b K
  | .bool a, .bool b => C.P.underlying t = some .bool ∧ wEqs op (decide (a = b)) K
  | .agg xs, .agg ys => match feq C.P t, eqL xs ys with
    | some ks, some b => ks = xs.map kindOf ∧ wEqs op b K
    | _, _ => False
  | .niliface, .niliface => ifq C.P t = true ∧ (isC x || isC y) = true ∧ wEqs op true K
  | .iface _ _, .niliface => ifq C.P t = true ∧ wEqs op false K
  | .nilp, .nilp => ptq C.P t = true ∧ wEqs op true K
  | .ptr r _ _, .nilp => ptq C.P t = true ∧ (match blkAt σ.o σ.l r with | some .dead => False | none => False | _ => True) ∧ wEqs op false K
  | _, _ => False

theorem wInt_sound {op : BinOp} {k k' : IntKind} {a b : Int} {K : PVal → Prop} (h : wInt op k a k' b K) (t : TypeId) (P : Program) (w : World) :
    ∃ u q, (binOp op t (.int k a) (.int k' b)).run P w = .ok u w ∧ Rep V q u ∧ K q := by
  cases op <;> simp only [wInt] at h
  case add =>
    obtain ⟨rfl, h⟩ := h
    exact ⟨.int k (k.wrap (a + b)), _, by simp [binOp, Op.intArith], .int, h⟩
  case sub =>
    obtain ⟨rfl, h⟩ := h
    exact ⟨.int k (k.wrap (a - b)), _, by simp [binOp, Op.intArith], .int, h⟩
  case mul =>
    obtain ⟨rfl, h⟩ := h
    exact ⟨.int k (k.wrap (a * b)), _, by simp [binOp, Op.intArith], .int, h⟩
  case quo =>
    obtain ⟨rfl, h0, h⟩ := h
    exact ⟨.int k (k.wrap (a.tdiv b)), _, by simp [binOp, Op.intDiv, h0], .int, h⟩
  case rem =>
    obtain ⟨rfl, h0, h⟩ := h
    exact ⟨.int k (a.tmod b), _, by simp [binOp, Op.intDiv, h0], .int, h⟩
  case and =>
    obtain ⟨rfl, h⟩ := h
    exact ⟨.int k (Go.bits .and k a b), _, by simp [binOp, intBits_and], .int, h⟩
  case or =>
    obtain ⟨rfl, h⟩ := h
    exact ⟨.int k (Go.bits .or k a b), _, by simp [binOp, intBits_or], .int, h⟩
  case xor =>
    obtain ⟨rfl, h⟩ := h
    exact ⟨.int k (Go.bits .xor k a b), _, by simp [binOp, intBits_xor], .int, h⟩
  case andNot =>
    obtain ⟨rfl, h⟩ := h
    exact ⟨.int k (Go.bits .andNot k a b), _, by simp [binOp, intBits_andNot], .int, h⟩
  case shl =>
    obtain ⟨h0, h⟩ := h
    have : ¬ b < 0 := by omega
    exact ⟨.int k (k.wrap (a * 2 ^ min b.toNat k.bits)), _, by simp [binOp, Op.shift, this], .int, h⟩
  case shr =>
    obtain ⟨h0, h⟩ := h
    have : ¬ b < 0 := by omega
    exact ⟨.int k (a.fdiv (2 ^ min b.toNat k.bits)), _, by simp [binOp, Op.shift, this], .int, h⟩
  case eql =>
    obtain ⟨rfl, h⟩ := h
    have e : (a == b) = decide (a = b) := by rw [Bool.eq_iff_iff]; simp
    exact ⟨.bool (a == b), _, by simp [binOp, Op.intCmp], (by rw [e]; exact .bool), h⟩
  case neq =>
    obtain ⟨rfl, h⟩ := h
    have e : (a != b) = !decide (a = b) := by rw [Bool.eq_iff_iff]; simp
    exact ⟨.bool (a != b), _, by simp [binOp, Op.intCmp], (by rw [e]; exact .bool), h⟩
  case lss =>
    obtain ⟨rfl, h⟩ := h
    exact ⟨.bool (decide (a < b)), _, by simp [binOp, Op.intCmp], .bool, h⟩
  case leq =>
    obtain ⟨rfl, h⟩ := h
    exact ⟨.bool (decide (a ≤ b)), _, by simp [binOp, Op.intCmp], .bool, h⟩
  case gtr =>
    obtain ⟨rfl, h⟩ := h
    exact ⟨.bool (decide (b < a)), _, by simp [binOp, Op.intCmp], .bool, h⟩
  case geq =>
    obtain ⟨rfl, h⟩ := h
    exact ⟨.bool (decide (b ≤ a)), _, by simp [binOp, Op.intCmp], .bool, h⟩

theorem wStr_sound {op : BinOp} {a b : List UInt8} {K : PVal → Prop} (h : wStr op a b K) (t : TypeId) (P : Program) (w : World) :
    ∃ u q, (binOp op t (.string ⟨⟨a⟩⟩) (.string ⟨⟨b⟩⟩)).run P w = .ok u w ∧ Rep V q u ∧ K q := by
  have e1 : ∀ (c : List UInt8), (⟨⟨c⟩⟩ : ByteArray).toList = c := fun c => by rw [ByteArray.toList_eq]
  have e2 : (a == b) = decide (a = b) := by rw [Bool.eq_iff_iff]; simp
  unfold wStr at h
  split at h
  · obtain ⟨h0, h⟩ := h
    refine ⟨.string (⟨⟨a⟩⟩ ++ ⟨⟨b⟩⟩), _, ?_, ?_, h⟩
    · rw [binOp_string_add]
      exact run_string_add_sum w _ _ (by simpa [ByteArray.size] using h0)
    · rw [ByteArray.mk_append_mk]
      exact .str
  · exact ⟨.bool (decide (a = b)), _, by simp [binOp, Op.stringOp, e1, e2], .bool, h⟩
  · exact ⟨.bool (!decide (a = b)), _, by simp [binOp, Op.stringOp, e1, e2], .bool, h⟩
  · exact ⟨.bool (Op.bytesLess a b), _, by simp [binOp, Op.stringOp, e1], .bool, h⟩
  · exact ⟨.bool (Op.bytesLess a b || decide (a = b)), _, by simp [binOp, Op.stringOp, e1, e2], .bool, h⟩
  · exact ⟨.bool (!(Op.bytesLess a b || decide (a = b))), _, by simp [binOp, Op.stringOp, e1, e2], .bool, h⟩
  · exact ⟨.bool (!Op.bytesLess a b), _, by simp [binOp, Op.stringOp, e1], .bool, h⟩
  · exact h.elim

theorem wBin_sound (hM : MemRel C V (blkAt σ.o σ.l)) {op : BinOp} {t : Nat} {x y : Operand} {p q : PVal} {u v : Value} (hp : Rep V p u) (hq : Rep V q v) {K : PVal → Prop} (h : wBin C op t x y p q σ K) :
    ∃ r s, ((do eqGuard op t x y u v; binOp op t u v) : Sem Value).run C.P V.w = .ok r V.w ∧ Rep V s r ∧ K s := by
  have noguard : ∀ u v, (¬ (u matches .nilIface | .agg _)) → (eqGuard op t x y u v).run C.P V.w = .ok () V.w := fun u v hn => by
    unfold eqGuard
    cases u <;> first | (exfalso; exact hn rfl) | (cases op <;> simp)
  unfold wBin at h
  split at h
  · cases hp; cases hq
    obtain ⟨r, s, hr, hs, hK⟩ := wInt_sound (V := V) h t C.P V.w
    exact ⟨r, s, by rw [Sem.run_bind, noguard _ _ (by simp)]; exact hr, hs, hK⟩
  · cases hp; cases hq
    obtain ⟨r, s, hr, hs, hK⟩ := wStr_sound (V := V) h t C.P V.w
    exact ⟨r, s, by rw [Sem.run_bind, noguard _ _ (by simp)]; exact hr, hs, hK⟩
  · cases hp; cases hq
    rename_i a b
    obtain ⟨hu, h⟩ := h
    have he : (Op.equal t (.bool a) (.bool b)).run C.P V.w = .ok (decide (a = b)) V.w := by
      have := run_equalIn_bool' (P := C.P) V.w 9999 t a b hu
      unfold Op.equal
      rw [show Op.maxDepth = 9999 + 1 from rfl, this]
      cases a <;> cases b <;> rfl
    unfold wEqs at h
    split at h
    · refine ⟨_, _, ?_, .bool, h⟩
      rw [Sem.run_bind, noguard _ _ (by simp)]
      simp [binOp, he]
    · refine ⟨_, _, ?_, .bool, h⟩
      rw [Sem.run_bind, noguard _ _ (by simp)]
      simp [binOp, he]
    · exact h.elim
  · rename_i xs ys
    split at h
    · rename_i ks b hf he
      obtain ⟨rfl, h⟩ := h
      obtain ⟨h1, h2⟩ := eq_struct_run (P := C.P) hf he hp hq V.w
      obtain ⟨g1, g2⟩ := h2 x y
      cases hp; cases hq
      unfold wEqs at h
      split at h
      · refine ⟨_, _, ?_, .bool, h⟩
        rw [Sem.run_bind, g1]
        simp [binOp, h1]
      · refine ⟨_, _, ?_, .bool, h⟩
        rw [Sem.run_bind, g2]
        simp [binOp, h1]
      · exact h.elim
    · exact h.elim
  · obtain ⟨hi, hc, h⟩ := h
    cases hp; cases hq
    have hu : ∃ ms, C.P.underlying t = some (.interface ms) := by
      unfold ifq at hi; split at hi <;> first | exact ⟨_, by assumption⟩ | cases hi
    obtain ⟨ms, hu⟩ := hu
    have he : (Op.equal t .nilIface .nilIface).run C.P V.w = .ok true V.w := by
      have L : ∀ d, (Op.equalIn (d + 1) t .nilIface .nilIface).run C.P V.w = .ok true V.w := fun d => by simp [Op.equalIn, run_underlying hu]
      exact L 9999
    have hg : (eqGuard op t x y .nilIface .nilIface).run C.P V.w = .ok () V.w := by
      cases hx : isC x with
      | true =>
        cases x with
        | const c => cases op <;> simp [eqGuard]
        | tmp => exact Bool.noConfusion hx
        | global => exact Bool.noConfusion hx
        | func => exact Bool.noConfusion hx
      | false =>
        rw [hx, Bool.false_or] at hc
        cases y with
        | const c => cases op <;> cases x <;> simp [eqGuard]
        | tmp => exact Bool.noConfusion hc
        | global => exact Bool.noConfusion hc
        | func => exact Bool.noConfusion hc
    unfold wEqs at h
    split at h
    · refine ⟨_, _, ?_, .bool, h⟩
      rw [Sem.run_bind, hg]
      simp [binOp, he]
    · refine ⟨_, _, ?_, .bool, h⟩
      rw [Sem.run_bind, hg]
      simp [binOp, he]
    · exact h.elim
  · obtain ⟨hi, h⟩ := h
    cases hp; cases hq
    have hu : ∃ ms, C.P.underlying t = some (.interface ms) := by
      unfold ifq at hi; split at hi <;> first | exact ⟨_, by assumption⟩ | cases hi
    obtain ⟨ms, hu⟩ := hu
    rename_i t' p' v' _
    have he : (Op.equal t (.iface t' v') .nilIface).run C.P V.w = .ok false V.w := by
      have L : ∀ d, (Op.equalIn (d + 1) t (.iface t' v') .nilIface).run C.P V.w = .ok false V.w := fun d => by simp [Op.equalIn, run_underlying hu]
      exact L 9999
    unfold wEqs at h
    split at h
    · refine ⟨_, _, ?_, .bool, h⟩
      rw [Sem.run_bind, noguard _ _ (by simp)]
      simp [binOp, he]
    · refine ⟨_, _, ?_, .bool, h⟩
      rw [Sem.run_bind, noguard _ _ (by simp)]
      simp [binOp, he]
    · exact h.elim
  · obtain ⟨hi, h⟩ := h
    cases hp; cases hq
    have hu : ∃ e, C.P.underlying t = some (.pointer e) := by
      unfold ptq at hi; split at hi <;> first | exact ⟨_, by assumption⟩ | cases hi
    obtain ⟨e, hu⟩ := hu
    have he : (Op.equal t (.pointer none) (.pointer none)).run C.P V.w = .ok true V.w := by
      have L : ∀ d, (Op.equalIn (d + 1) t (.pointer none) (.pointer none)).run C.P V.w = .ok true V.w := fun d => by simp [Op.equalIn, run_underlying hu]
      exact L 9999
    unfold wEqs at h
    split at h
    · refine ⟨_, _, ?_, .bool, h⟩
      rw [Sem.run_bind, noguard _ _ (by simp)]
      simp [binOp, he]
    · refine ⟨_, _, ?_, .bool, h⟩
      rw [Sem.run_bind, noguard _ _ (by simp)]
      simp [binOp, he]
    · exact h.elim
  · obtain ⟨hi, hb, h⟩ := h
    cases hq
    have hu : ∃ e, C.P.underlying t = some (.pointer e) := by
      unfold ptq at hi; split at hi <;> first | exact ⟨_, by assumption⟩ | cases hi
    obtain ⟨e, hu⟩ := hu
    cases hp with
    | ptrDead hd _ =>
      exfalso
      rename_i r _ _ _
      split at hb
      · exact hb
      · exact hb
      · rename_i h1 h2
        cases hB : blkAt σ.o σ.l r with
        | none => exact h2 hB
        | some k =>
          have := hM.blk _ _ hB
          cases k with
          | dead => exact h1 hB
          | row => rcases this with ⟨h1, _⟩ | ⟨_, _, _, _, h1, _⟩ <;> rw [h1] at hd <;> cases hd
          | mp => obtain ⟨_, _, _, h1, _⟩ := this; rw [h1] at hd; cases hd
          | iter => obtain ⟨_, h1, _⟩ := this; rw [h1] at hd; cases hd
    | ptr hl =>
      rename_i i off bb base size
      have he : ∀ a, (Op.equal t (.pointer (some a)) (.pointer none)).run C.P V.w = .ok false V.w := fun a => by
        have L : ∀ d, (Op.equalIn (d + 1) t (.pointer (some a)) (.pointer none)).run C.P V.w = .ok false V.w := fun d => by simp [Op.equalIn, run_underlying hu]
        exact L 9999
      unfold wEqs at h
      split at h
      · refine ⟨_, _, ?_, .bool, h⟩
        rw [Sem.run_bind, noguard _ _ (by simp)]
        simp [binOp, he]
      · refine ⟨_, _, ?_, .bool, h⟩
        rw [Sem.run_bind, noguard _ _ (by simp)]
        simp [binOp, he]
      · exact h.elim
  · exact h.elim
end Go.V
