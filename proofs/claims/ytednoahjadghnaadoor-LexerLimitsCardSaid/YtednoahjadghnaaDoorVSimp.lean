/-
  How the walk is reckoned: the equations for 'simp only'.
-/
import Derived.Test.YtednoahjadghnaaDoorVCallee
namespace Go.V
open Go

variable {C : Ctx} {n : Nat}

theorem gt_nil (i : Nat) : gt [] i = .any := rfl
theorem gt_cons (k : Nat) (v : PVal) (r : Env) (i : Nat) : gt ((k, v) :: r) i = if k = i then v else gt r i := by
  simp only [gt]
  cases h : Nat.beq k i with
  | true => rw [if_pos (Nat.eq_of_beq_eq_true h)]; rfl
  | false => rw [if_neg (fun e => by subst e; simp at h)]; rfl
theorem put_some (e : Env) (o l : List Blk) (d : List PDef) (n t : Nat) (p : PVal) : St.put ⟨e, o, l, d⟩ n (some t) p = if t < n then ⟨(t, p) :: e, o, l, d⟩ else ⟨e, o, l, d⟩ := by
  simp only [St.put, put]
  cases h : Nat.blt t n with
  | true => rw [if_pos (by rwa [Nat.blt_eq] at h)]; rfl
  | false => rw [if_neg (fun h' => by rw [show Nat.blt t n = true from by rw [Nat.blt_eq]; exact h'] at h; cases h)]; rfl
theorem put_none (σ : St) (n : Nat) (p : PVal) : St.put σ n none p = σ := rfl
theorem val_tmp (e : Env) (t : Nat) : val e (.tmp t) = gt e t := rfl
theorem val_func (e : Env) (f : Nat) : val e (.func f) = .fn (.func f) [] [] := rfl
theorem val_global (e : Env) (g : Nat) : val e (.global g) = .gptr g 0 := rfl
theorem val_int (e : Env) (k : IntKind) (m : Int) : val e (.const (.int k m)) = .int k m := rfl
theorem val_bool (e : Env) (b : Bool) : val e (.const (.bool b)) = .bool b := rfl
theorem val_str (e : Env) (l : List UInt8) : val e (.const (.string { data := l.toArray })) = .str l := rfl
theorem val_nils (e : Env) : val e (.const (.slice none 0 0)) = .nils := rfl
theorem val_nilp (e : Env) : val e (.const (.pointer none)) = .nilp := rfl
theorem val_nilif (e : Env) : val e (.const .nilIface) = .niliface := rfl

theorem wOps_nil (all : List Oper) (σ : St) (K : St → Prop) (KP : PVal → St → Prop) : wOps C n all [] σ K KP = K σ := rfl
theorem wOps_plain (all : List Oper) (d : Option Nat) (op : Op) (ty : TypeId) (pos : String) (af : Array Edge) (os : List Oper) (σ : St) (K : St → Prop) (KP : PVal → St → Prop) :
    wOps C n all ({ dst := d, op := op, type := ty, pos := pos, after := af, guard := none } :: os) σ K KP = wOp C op σ (fun p σ' => wOps C n all os (σ'.put n d p) K KP) KP := rfl

/-- Marks what the reckoning shall not go into: what a later argument's type speaks of is left alone. -/
inductive Tag2 (A B : Prop) : Type where
  | mk
inductive TagK (A B : PVal → St → Prop) : Type where
  | mk
/-- At a guard, or a choice: A where the bool is 'want', else B. -/
def gW (p : PVal) (want : Bool) (A B : Prop) (_ : Tag2 A B) : Prop :=
  match p with
  | .bool b => (b = want → A) ∧ (b = (!want) → B)
  | .tuple [] => B
  | _ => False
theorem gW_u (want : Bool) (A B : Prop) (u : Tag2 A B) : gW (.tuple []) want A B u = B := rfl
theorem gW_tt (A B : Prop) (u : Tag2 A B) : gW (.bool true) true A B u = A := by simp [gW]
theorem gW_tf (A B : Prop) (u : Tag2 A B) : gW (.bool true) false A B u = B := by simp [gW]
theorem gW_ft (A B : Prop) (u : Tag2 A B) : gW (.bool false) true A B u = B := by simp [gW]
theorem gW_ff (A B : Prop) (u : Tag2 A B) : gW (.bool false) false A B u = A := by simp [gW]
/-- At a choice. -/
def gP (p : PVal) (A B : Prop) (_ : Tag2 A B) : Prop :=
  match p with
  | .bool b => (b = true → A) ∧ (b = false → B)
  | _ => False
theorem gP_t (A B : Prop) (u : Tag2 A B) : gP (.bool true) A B u = A := by simp [gP]
theorem gP_f (A B : Prop) (u : Tag2 A B) : gP (.bool false) A B u = B := by simp [gP]
theorem gP_split {b : Bool} {A B : Prop} {u : Tag2 A B} (h1 : b = true → A) (h2 : b = false → B) : gP (.bool b) A B u := ⟨h1, h2⟩
theorem gW_split {b want : Bool} {A B : Prop} {u : Tag2 A B} (h1 : b = want → A) (h2 : b = (!want) → B) : gW (.bool b) want A B u := ⟨h1, h2⟩
theorem wOps_guard (all : List Oper) (d : Option Nat) (op : Op) (ty : TypeId) (pos : String) (af : Array Edge) (j : Nat) (want : Bool) (os : List Oper) (σ : St) (K : St → Prop) (KP : PVal → St → Prop) :
    wOps C n all ({ dst := d, op := op, type := ty, pos := pos, after := af, guard := some (j, want) } :: os) σ K KP =
      gW (yld all σ.e j) want (wOp C op σ (fun p σ' => wOps C n all os (σ'.put n d p) K KP) KP) (wOps C n all os (σ.put n d (.tuple [])) K KP) .mk := rfl
theorem yld_succ (o : Oper) (os : List Oper) (e : Env) (j : Nat) : yld (o :: os) e (j + 1) = yld os e j := by simp [yld]
theorem yld_zero (d : Nat) (op : Op) (ty : TypeId) (pos : String) (af : Array Edge) (g : Option (Nat × Bool)) (os : List Oper) (e : Env) :
    yld ({ dst := some d, op := op, type := ty, pos := pos, after := af, guard := g } :: os) e 0 = gt e d := by simp [yld]

inductive TagO (all os : List Oper) (K : St → Prop) (KP : PVal → St → Prop) : Type where
  | mk
inductive TagP (op : Op) (K KP : PVal → St → Prop) : Type where
  | mk
/-- The rows and the operations, marked: only the state is looked into. -/
def wOpsX (C : Ctx) (n : Nat) (all os : List Oper) (σ : St) (K : St → Prop) (KP : PVal → St → Prop) (_ : TagO all os K KP) : Prop := wOps C n all os σ K KP
def wOpX (C : Ctx) (op : Op) (σ : St) (K KP : PVal → St → Prop) (_ : TagP op K KP) : Prop := wOp C op σ K KP

/-! the operations -/
section
variable (σ : St) (K KP : PVal → St → Prop)
theorem wOp_move (x : Operand) : wOp C (.move x) σ K KP = K (val σ.e x) σ := rfl
theorem wOp_assign (x : Operand) : wOp C (.assign x) σ K KP = K (val σ.e x) σ := rfl
theorem wOp_pick (c a b : Operand) : wOp C (.pick c a b) σ K KP = gP (val σ.e c) (K (val σ.e a) σ) (K (val σ.e b) σ) .mk := by
  simp only [wOp, gP]; cases val σ.e c <;> rfl
theorem wOp_alloc (e : TypeId) : wOp C (.alloc e) σ K KP = wAlloc C e σ K := rfl
theorem wOp_box (e : TypeId) (x : Operand) : wOp C (.box e x) σ K KP = wBox e (val σ.e x) σ K := rfl
theorem wOp_build (t : TypeId) (ps : Array (Nat × Operand)) : wOp C (.build t ps) σ K KP = wBuild C t ps σ.e fun q => K q σ := rfl
theorem wOp_buildSlice (t m : Nat) (ps : Array (Nat × Operand)) : wOp C (.buildSlice t m ps) σ K KP = wBuildSlice C t m ps σ K := rfl
theorem wOp_makeSlice (t : TypeId) (x y : Operand) : wOp C (.makeSlice t x y) σ K KP = wMakeSlice C t (val σ.e x) (val σ.e y) σ K := rfl
theorem wOp_load (t : TypeId) (x : Operand) : wOp C (.load t x) σ K KP = wLoad C t (val σ.e x) σ fun q => K q σ := rfl
theorem wOp_store (t : TypeId) (x y : Operand) : wOp C (.store t x y) σ K KP = wStore C t (val σ.e x) (val σ.e y) σ fun σ' => K .any σ' := rfl
theorem wOp_nilCheck (x : Operand) : wOp C (.nilCheck x) σ K KP = wNilCheck (val σ.e x) σ fun q => K q σ := rfl
theorem wOp_binOp (op : BinOp) (t ty : TypeId) (x y : Operand) : wOp C (.binOp op t x y ty) σ K KP = wBin C op t x y (val σ.e x) (val σ.e y) σ fun q => K q σ := rfl
theorem wOp_unOp (op : UnOp) (t : TypeId) (x : Operand) : wOp C (.unOp op t x) σ K KP = wUn op (val σ.e x) fun q => K q σ := rfl
theorem wOp_convert (s d : TypeId) (x : Operand) : wOp C (.convert s d x) σ K KP = wConv C s d (val σ.e x) σ K := rfl
theorem wOp_makeInterface (t : TypeId) (x : Operand) : wOp C (.makeInterface t x) σ K KP = wMakeIface C t (val σ.e x) fun q => K q σ := rfl
theorem wOp_makeFunc (f : Fn) (a b : List Operand) : wOp C (.makeFunc f a.toArray b.toArray) σ K KP = K (.fn f (a.map (val σ.e)) (b.map (val σ.e))) σ := rfl
theorem wOp_slice (t : TypeId) (x : Operand) (lo hi : Option Operand) : wOp C (.slice t x lo hi none) σ K KP = wSlice C t (val σ.e x) (lo.map (val σ.e)) (hi.map (val σ.e)) σ fun q => K q σ := by
  simp [wOp]
theorem wOp_fieldAddr (s : TypeId) (x : Operand) (f : Nat) : wOp C (.fieldAddr s x f) σ K KP = wFieldAddr C s (val σ.e x) f σ fun q => K q σ := rfl
theorem wOp_field (t : TypeId) (x : Operand) (f : Nat) : wOp C (.field t x f) σ K KP = wField C t (val σ.e x) f fun q => K q σ := rfl
theorem wOp_indexAddr (t : TypeId) (x i : Operand) : wOp C (.indexAddr t x i) σ K KP = wIndexAddr C t (val σ.e x) (val σ.e i) σ fun q => K q σ := rfl
theorem wOp_index (t : TypeId) (x i : Operand) : wOp C (.index t x i) σ K KP = wIndex C t (val σ.e x) (val σ.e i) fun q => K q σ := rfl
theorem wOp_extract (x : Operand) (i : Nat) : wOp C (.extract x i) σ K KP = wExtract (val σ.e x) i fun q => K q σ := rfl
theorem wOp_builtin (b : Builtin) (args : List Operand) (ts : List TypeId) : wOp C (.call { callee := .builtin b, args := args.toArray, argTypes := ts.toArray }) σ K KP = wBuiltin C b ts.toArray (args.map (val σ.e)) σ K KP := rfl
/-- A call, what follows marked. -/
def CallX (C : Ctx) (g : FuncId) (args : List PVal) (σ : St) (K KP : PVal → St → Prop) (_ : TagK K KP) : Prop := CallW C g args σ K KP
theorem CallX.mk {g : FuncId} {args : List PVal} {σ : St} {K KP : PVal → St → Prop} {u : TagK K KP} (h : CallW C g args σ K KP) : CallX C g args σ K KP u := h
/-- The call of a function value. -/
def fW (C : Ctx) (f : PVal) (args : List PVal) (σ : St) (K KP : PVal → St → Prop) : Prop :=
  match f with
  | .fn (.func g) first caps => CallX C g (first ++ (args ++ caps)) σ K KP .mk
  | _ => False
theorem wOp_value (f : Operand) (args : List Operand) (ts : List TypeId) : wOp C (.call { callee := .value f, args := args.toArray, argTypes := ts.toArray }) σ K KP = fW C (val σ.e f) (args.map (val σ.e)) σ K KP := by
  simp only [wOp, wCall, fW]; cases val σ.e f <;> rfl
theorem fW_fn (g : Nat) (a args b : List PVal) : fW C (.fn (.func g) a b) args σ K KP = CallX C g (a ++ (args ++ b)) σ K KP .mk := rfl
end

/-! ### the steps of control, what follows behind a variable -/
theorem WC.rs {id : Nat} {l : List Oper} {y : Code} {σ : St} {Q : AEx → St → Prop} (h : ∀ K : St → Prop, (∀ σ', WC C n y σ' Q → K σ') → wOpsX C n l l σ K (fun p σ' => Q (.pan p) σ') .mk) : WC C n (.seq (.region id l.toArray false) y) σ Q :=
  WC.seq (WC.region (h _ fun _ h => h))
theorem WC.r1 {id : Nat} {l : List Oper} {σ : St} {Q : AEx → St → Prop} (h : wOpsX C n l l σ (Q .normal) (fun p σ' => Q (.pan p) σ') .mk) : WC C n (.region id l.toArray false) σ Q := WC.region h
def blkQ (id : Nat) (K : St → Prop) (Q : AEx → St → Prop) : AEx → St → Prop
  | .normal, σ => K σ
  | .exit i, σ => if i = id then K σ else Q (.exit i) σ
  | x, σ => Q x σ
theorem WC.bs {id : Nat} {c y : Code} {σ : St} {Q : AEx → St → Prop} (h : ∀ K : St → Prop, (∀ σ', WC C n y σ' Q → K σ') → WC C n c σ (blkQ id K Q)) : WC C n (.seq (.block id c) y) σ Q := by
  refine WC.seq (WC.block ((h _ fun _ h => h).mono fun x σ hx => ?_))
  cases x with
  | normal => exact hx
  | exit i =>
    simp only [blkQ] at hx
    by_cases hi : i = id
    · rw [if_pos hi] at hx; exact ⟨fun _ => hx, fun h => absurd hi h⟩
    · rw [if_neg hi] at hx; exact ⟨fun h => absurd h hi, fun _ => hx⟩
  | ret => exact hx
  | pan p => exact hx
theorem WC.b1 {id : Nat} {c : Code} {σ : St} {Q : AEx → St → Prop} (h : WC C n c σ (blkQ id (Q .normal) Q)) : WC C n (.block id c) σ Q := by
  refine WC.block (h.mono fun x σ hx => ?_)
  cases x with
  | normal => exact hx
  | exit i =>
    simp only [blkQ] at hx
    by_cases hi : i = id
    · rw [if_pos hi] at hx; exact ⟨fun _ => hx, fun h => absurd hi h⟩
    · rw [if_neg hi] at hx; exact ⟨fun h => absurd h hi, fun _ => hx⟩
  | ret => exact hx
  | pan p => exact hx
def seqQ (K : St → Prop) (Q : AEx → St → Prop) : AEx → St → Prop := thenQ K Q
theorem WC.sK {x y : Code} {σ : St} {Q : AEx → St → Prop} (h : ∀ K : St → Prop, (∀ σ', WC C n y σ' Q → K σ') → WC C n x σ (thenQ K Q)) : WC C n (.seq x y) σ Q := WC.seq (h _ fun _ h => h)

/-! ### the equations, bundled -/
theorem blkAt_o (o l : List Blk) (j : Nat) : blkAt o l (.o j) = o[j]? := rfl
theorem blkAt_l (o l : List Blk) (j : Nat) : blkAt o l (.l j) = l[j]? := rfl
theorem setBlk_o (e : Env) (o l : List Blk) (d : List PDef) (j : Nat) (k : Blk) : setBlk ⟨e, o, l, d⟩ (.o j) k = ⟨e, o.set j k, l, d⟩ := rfl
theorem setBlk_l (e : Env) (o l : List Blk) (d : List PDef) (j : Nat) (k : Blk) : setBlk ⟨e, o, l, d⟩ (.l j) k = ⟨e, o, l.set j k, d⟩ := rfl
theorem pushBlk_mk (e : Env) (o l : List Blk) (d : List PDef) (k : Blk) : pushBlk ⟨e, o, l, d⟩ k = ⟨e, o, l ++ [k], d⟩ := rfl
theorem cells_agg (cs : List PVal) : (PVal.agg cs).cells = cs := rfl
theorem cells_int (k : IntKind) (m : Int) : (PVal.int k m).cells = [.int k m] := rfl
theorem cells_str (s : List UInt8) : (PVal.str s).cells = [.str s] := rfl
theorem cells_bool (b : Bool) : (PVal.bool b).cells = [.bool b] := rfl
theorem cells_slc (s : List PVal) : (PVal.slc s).cells = [.slc s] := rfl
theorem cells_nils : PVal.nils.cells = [.nils] := rfl
theorem cells_nilp : PVal.nilp.cells = [.nilp] := rfl
theorem cells_ptr (r : Ref) (i o : Nat) : (PVal.ptr r i o).cells = [.ptr r i o] := rfl
theorem cells_ref (r : Ref) (i o : Nat) : (PVal.ref r i o).cells = [.ref r i o] := rfl
theorem cells_fn (f : Fn) (a b : List PVal) : (PVal.fn f a b).cells = [.fn f a b] := rfl
theorem loadCs_t (m : Nat) (cs : List PVal) (off : Nat) (K : PVal → Prop) : loadCs true m cs off K = (off + m ≤ cs.length ∧ K (.agg ((cs.drop off).take m))) := rfl
theorem loadCs_f (m : Nat) (cs : List PVal) (off : Nat) (K : PVal → Prop) : loadCs false m cs off K = match cs[off]? with
    | some c => K c
    | none => False := rfl
theorem EV :
    (∀ (C : Ctx) n (all : List Oper) (d : Option Nat) (op : Op) (ty : TypeId) (pos : String) (af : Array Edge) (os : List Oper) (σ : St) (K : St → Prop) (KP : PVal → St → Prop) u,
      wOpsX C n all ({ dst := d, op := op, type := ty, pos := pos, after := af, guard := none } :: os) σ K KP u = wOpX C op σ (fun p σ' => wOpsX C n all os (σ'.put n d p) K KP .mk) KP .mk) ∧
    (∀ (C : Ctx) n (all : List Oper) (σ : St) (K : St → Prop) (KP : PVal → St → Prop) u, wOpsX C n all [] σ K KP u = K σ) ∧
    (∀ (C : Ctx) n (all : List Oper) (d : Option Nat) (op : Op) (ty : TypeId) (pos : String) (af : Array Edge) (j : Nat) (want : Bool) (os : List Oper) (σ : St) (K : St → Prop) (KP : PVal → St → Prop) u,
      wOpsX C n all ({ dst := d, op := op, type := ty, pos := pos, after := af, guard := some (j, want) } :: os) σ K KP u =
        gW (yld all σ.e j) want (wOpX C op σ (fun p σ' => wOpsX C n all os (σ'.put n d p) K KP .mk) KP .mk) (wOpsX C n all os (σ.put n d (.tuple [])) K KP .mk) .mk) ∧
    (∀ A B u, gW (.bool true) true A B u = A) ∧ (∀ A B u, gW (.bool true) false A B u = B) ∧ (∀ A B u, gW (.bool false) true A B u = B) ∧ (∀ A B u, gW (.bool false) false A B u = A) ∧ (∀ want A B u, gW (.tuple []) want A B u = B) ∧ (∀ A B u, gP (.bool true) A B u = A) ∧ (∀ A B u, gP (.bool false) A B u = B) ∧
    (∀ i, gt [] i = .any) ∧ (∀ k v r i, gt ((k, v) :: r) i = if k = i then v else gt r i) ∧
    (∀ e o l d n t p, St.put ⟨e, o, l, d⟩ n (some t) p = if t < n then ⟨(t, p) :: e, o, l, d⟩ else ⟨e, o, l, d⟩) ∧ (∀ σ n p, St.put σ n none p = σ) ∧
    (∀ e t, val e (.tmp t) = gt e t) ∧ (∀ e f, val e (.func f) = .fn (.func f) [] []) ∧ (∀ e g, val e (.global g) = .gptr g 0) ∧ (∀ e k m, val e (.const (.int k m)) = .int k m) ∧
    (∀ e b, val e (.const (.bool b)) = .bool b) ∧ (∀ e (l : List UInt8), val e (.const (.string { data := l.toArray })) = .str l) ∧ (∀ e, val e (.const (.slice none 0 0)) = .nils) ∧
    (∀ e, val e (.const (.pointer none)) = .nilp) ∧ (∀ e, val e (.const .nilIface) = .niliface) :=
  ⟨fun _ _ _ _ _ _ _ _ _ _ _ _ _ => rfl, fun _ _ _ _ _ _ _ => rfl, fun _ _ _ _ _ _ _ _ _ _ _ _ _ _ _ => rfl, gW_tt, gW_tf, gW_ft, gW_ff, gW_u, gP_t, gP_f, gt_nil, gt_cons, put_some, put_none, val_tmp, val_func, val_global, val_int, val_bool, val_str, val_nils, val_nilp, val_nilif⟩
theorem EO : (∀ C σ K KP x u, wOpX C (.move x) σ K KP u = K (val σ.e x) σ) ∧ (∀ C σ K KP x u, wOpX C (.assign x) σ K KP u = K (val σ.e x) σ) ∧
    (∀ C σ K KP c a b u, wOpX C (.pick c a b) σ K KP u = gP (val σ.e c) (K (val σ.e a) σ) (K (val σ.e b) σ) .mk) ∧
    (∀ C σ K KP e u, wOpX C (.alloc e) σ K KP u = wAlloc C e σ K) ∧ (∀ C σ K KP e x u, wOpX C (.box e x) σ K KP u = wBox e (val σ.e x) σ K) ∧
    (∀ C σ K KP t ps u, wOpX C (.build t ps) σ K KP u = wBuild C t ps σ.e fun q => K q σ) ∧ (∀ C σ K KP t m ps u, wOpX C (.buildSlice t m ps) σ K KP u = wBuildSlice C t m ps σ K) ∧
    (∀ C σ K KP t x y u, wOpX C (.makeSlice t x y) σ K KP u = wMakeSlice C t (val σ.e x) (val σ.e y) σ K) ∧ (∀ C σ K KP t x u, wOpX C (.load t x) σ K KP u = wLoad C t (val σ.e x) σ fun q => K q σ) ∧ (∀ C σ K KP t x y u, wOpX C (.store t x y) σ K KP u = wStore C t (val σ.e x) (val σ.e y) σ fun σ' => K .any σ') ∧
    (∀ C σ K KP x u, wOpX C (.nilCheck x) σ K KP u = wNilCheck (val σ.e x) σ fun q => K q σ) ∧
    (∀ C σ K KP op t ty x y u, wOpX C (.binOp op t x y ty) σ K KP u = wBin C op t x y (val σ.e x) (val σ.e y) σ fun q => K q σ) ∧
    (∀ C σ K KP op t x u, wOpX C (.unOp op t x) σ K KP u = wUn op (val σ.e x) fun q => K q σ) ∧ (∀ C σ K KP s d x u, wOpX C (.convert s d x) σ K KP u = wConv C s d (val σ.e x) σ K) ∧
    (∀ C σ K KP t x u, wOpX C (.makeInterface t x) σ K KP u = wMakeIface C t (val σ.e x) fun q => K q σ) ∧
    (∀ C σ K KP f (a b : List Operand) u, wOpX C (.makeFunc f a.toArray b.toArray) σ K KP u = K (.fn f (a.map (val σ.e)) (b.map (val σ.e))) σ) ∧
    (∀ C σ K KP t x lo hi u, wOpX C (.slice t x lo hi none) σ K KP u = wSlice C t (val σ.e x) (lo.map (val σ.e)) (hi.map (val σ.e)) σ fun q => K q σ) ∧
    (∀ C σ K KP s x f u, wOpX C (.fieldAddr s x f) σ K KP u = wFieldAddr C s (val σ.e x) f σ fun q => K q σ) ∧ (∀ C σ K KP t x f u, wOpX C (.field t x f) σ K KP u = wField C t (val σ.e x) f fun q => K q σ) ∧
    (∀ C σ K KP t x i u, wOpX C (.indexAddr t x i) σ K KP u = wIndexAddr C t (val σ.e x) (val σ.e i) σ fun q => K q σ) ∧
    (∀ C σ K KP t x i u, wOpX C (.index t x i) σ K KP u = wIndex C t (val σ.e x) (val σ.e i) fun q => K q σ) ∧ (∀ C σ K KP x i u, wOpX C (.extract x i) σ K KP u = wExtract (val σ.e x) i fun q => K q σ) ∧
    (∀ C σ K KP b (args : List Operand) (ts : List TypeId) u, wOpX C (.call { callee := .builtin b, args := args.toArray, argTypes := ts.toArray }) σ K KP u = wBuiltin C b ts.toArray (args.map (val σ.e)) σ K KP) ∧
    (∀ C σ K KP f (args : List Operand) (ts : List TypeId) u, wOpX C (.call { callee := .value f, args := args.toArray, argTypes := ts.toArray }) σ K KP u = fW C (val σ.e f) (args.map (val σ.e)) σ K KP) ∧
    (∀ C σ K KP g a args b, fW C (.fn (.func g) a b) args σ K KP = CallX C g (a ++ (args ++ b)) σ K KP .mk) :=
  ⟨fun _ σ K KP a0 _ => wOp_move σ K KP a0, fun _ σ K KP a0 _ => wOp_assign σ K KP a0, fun _ σ K KP a0 a1 a2 _ => wOp_pick σ K KP a0 a1 a2, fun _ σ K KP a0 _ => wOp_alloc σ K KP a0, fun _ σ K KP a0 a1 _ => wOp_box σ K KP a0 a1, fun _ σ K KP a0 a1 _ => wOp_build σ K KP a0 a1, fun _ σ K KP a0 a1 a2 _ => wOp_buildSlice σ K KP a0 a1 a2, fun _ σ K KP a0 a1 a2 _ => wOp_makeSlice σ K KP a0 a1 a2, fun _ σ K KP a0 a1 _ => wOp_load σ K KP a0 a1, fun _ σ K KP a0 a1 a2 _ => wOp_store σ K KP a0 a1 a2, fun _ σ K KP a0 _ => wOp_nilCheck σ K KP a0, fun _ σ K KP a0 a1 a2 a3 a4 _ => wOp_binOp σ K KP a0 a1 a2 a3 a4, fun _ σ K KP a0 a1 a2 _ => wOp_unOp σ K KP a0 a1 a2, fun _ σ K KP a0 a1 a2 _ => wOp_convert σ K KP a0 a1 a2, fun _ σ K KP a0 a1 _ => wOp_makeInterface σ K KP a0 a1, fun _ σ K KP a0 a1 a2 _ => wOp_makeFunc σ K KP a0 a1 a2, fun _ σ K KP a0 a1 a2 a3 _ => wOp_slice σ K KP a0 a1 a2 a3, fun _ σ K KP a0 a1 a2 _ => wOp_fieldAddr σ K KP a0 a1 a2, fun _ σ K KP a0 a1 a2 _ => wOp_field σ K KP a0 a1 a2, fun _ σ K KP a0 a1 a2 _ => wOp_indexAddr σ K KP a0 a1 a2, fun _ σ K KP a0 a1 a2 _ => wOp_index σ K KP a0 a1 a2, fun _ σ K KP a0 a1 _ => wOp_extract σ K KP a0 a1, fun _ σ K KP a0 a1 a2 _ => wOp_builtin σ K KP a0 a1 a2, fun _ σ K KP a0 a1 a2 _ => wOp_value σ K KP a0 a1 a2, fun _ => fW_fn⟩
theorem EB : (∀ (o l : List Blk) (j : Nat), blkAt o l (.o j) = o[j]?) ∧ (∀ (o l : List Blk) (j : Nat), blkAt o l (.l j) = l[j]?) ∧
    (∀ e o l d j k, setBlk ⟨e, o, l, d⟩ (.o j) k = ⟨e, o.set j k, l, d⟩) ∧ (∀ e o l d j k, setBlk ⟨e, o, l, d⟩ (.l j) k = ⟨e, o, l.set j k, d⟩) ∧ (∀ e o l d k, pushBlk ⟨e, o, l, d⟩ k = ⟨e, o, l ++ [k], d⟩) ∧
    (∀ cs, (PVal.agg cs).cells = cs) ∧ (∀ k m, (PVal.int k m).cells = [.int k m]) ∧ (∀ s, (PVal.str s).cells = [.str s]) ∧ (∀ b, (PVal.bool b).cells = [.bool b]) ∧ (∀ s, (PVal.slc s).cells = [.slc s]) ∧
    (PVal.nils.cells = [.nils]) ∧ (PVal.nilp.cells = [.nilp]) ∧ (∀ r i o, (PVal.ptr r i o).cells = [.ptr r i o]) ∧ (∀ r i o, (PVal.ref r i o).cells = [.ref r i o]) ∧ (∀ f a b, (PVal.fn f a b).cells = [.fn f a b]) ∧
    (∀ m cs off (K : PVal → Prop), loadCs true m cs off K = (off + m ≤ cs.length ∧ K (.agg ((cs.drop off).take m)))) ∧
    (∀ m cs off (K : PVal → Prop), loadCs false m cs off K = match cs[off]? with
      | some c => K c
      | none => False) :=
  ⟨blkAt_o, blkAt_l, setBlk_o, setBlk_l, pushBlk_mk, cells_agg, cells_int, cells_str, cells_bool, cells_slc, cells_nils, cells_nilp, cells_ptr, cells_ref, cells_fn, loadCs_t, loadCs_f⟩

theorem iffT {p : Prop} (h : p) : p = True := eq_true h
/-- What is closed. -/
theorem CL : (ClosedL [] = True) ∧ (∀ p ps, ClosedL (p :: ps) = (Closed p ∧ ClosedL ps)) ∧ (Closed .any = True) ∧ (∀ b, Closed (.bool b) = True) ∧ (∀ k m, Closed (.int k m) = True) ∧ (∀ s, Closed (.str s) = True) ∧
    (Closed .nilp = True) ∧ (Closed .nils = True) ∧ (Closed .niliface = True) ∧ (Closed .nilfn = True) ∧ (Closed .nilmap = True) ∧ (∀ g o, Closed (.gptr g o) = True) ∧ (∀ cs, Closed (.agg cs) = ClosedL cs) ∧
    (∀ cs, Closed (.tuple cs) = ClosedL cs) ∧ (∀ cs, Closed (.slc cs) = ClosedL cs) ∧ (∀ t v, Closed (.iface t v) = Closed v) ∧ (∀ g a b, Closed (.fn g a b) = (ClosedL a ∧ ClosedL b)) ∧ (∀ x o, Closed (.eptr x o) = Closed x) := by
  refine ⟨iffT .nil, fun p ps => propext ⟨fun h => ?_, fun h => .cons h.1 h.2⟩, iffT .any, fun b => iffT (.bool b), fun k m => iffT (.int k m), fun s => iffT (.str s), iffT .nilp, iffT .nils, iffT .niliface, iffT .nilfn, iffT .nilmap, fun g o => iffT (.gptr g o),
    fun cs => propext ⟨fun h f => ?_, .agg⟩, fun cs => propext ⟨fun h f => ?_, .tuple⟩, fun cs => propext ⟨fun h f => ?_, .slc⟩, fun t v => propext ⟨fun h f => ?_, .iface t⟩, fun g a b => propext ⟨fun h => ⟨fun f => ?_, fun f => ?_⟩, fun h => .fn g h.1 h.2⟩, fun x o => propext ⟨fun h f => ?_, fun h => .eptr h o⟩⟩
  · constructor <;> intro f <;> have := h f <;> simp only [renL, List.cons.injEq] at this
    · exact this.1
    · exact this.2
  all_goals (have := h f; simp only [ren] at this; injections)

/-- The end of a function that touches nothing. -/
theorem endsPure {e : Env} {l : List Blk} {d : List PDef} {p q : PVal} (hq : Closed q) (h : p = q) : EndsIn ⟨e, [], l, d⟩ p fun p st => PRes.ret p = PRes.ret q ∧ st = [] := by
  subst h
  exact EndsIn.plain hq (by simp) ⟨rfl, rfl⟩
end Go.V
