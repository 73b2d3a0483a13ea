/-
  How the walk of a region that draws its order is reckoned.
-/
import Derived.Test.YtednoahjadghnaaDoorVSimp
import Derived.Test.YtednoahjadghnaaDoorVDrawF
import Derived.IntWalk
namespace Go.V
open Go

variable {C : Ctx} {n : Nat}

theorem wDr_nil (all : List Oper) (K : St → Prop) (KP : PVal → St → Prop) (pd : List Pd) (σ : St) : wDr C n all K KP [] pd σ = K σ := rfl
theorem wDr_q (all : List Oper) (K : St → Prop) (KP : PVal → St → Prop) (i : Nat) (nd : List Nat) (dd : Option Nat) (op : Op) (ty : TypeId) (pos : String) (af : Array Edge) (r : List (Pl × Oper)) (pd : List Pd) (σ : St) :
    wDr C n all K KP ((⟨i, 0, false, nd⟩, { dst := dd, op := op, type := ty, pos := pos, after := af, guard := none }) :: r) pd σ =
      wOp C op σ (fun p τ => wDr C n all K KP r pd (τ.put n dd p)) (fun _ _ => False) := rfl
theorem wDr_qk (all : List Oper) (K : St → Prop) (KP : PVal → St → Prop) (i : Nat) (nd : List Nat) (dd : Option Nat) (op : Op) (ty : TypeId) (pos : String) (af : Array Edge) (r : List (Pl × Oper)) (pd : List Pd) (e : Env) (o l : List Blk) (d : List PDef) :
    wDr C n all K KP ((⟨i, 0, true, nd⟩, { dst := dd, op := op, type := ty, pos := pos, after := af, guard := none }) :: r) pd ⟨e, o, l, d⟩ =
      wOp C op ⟨e, o, l, d⟩ (fun p τ => wDr C n all K KP r (⟨i, 0, { dst := dd, op := op, type := ty, pos := pos, after := af, guard := none }, e, p⟩ :: pd) (τ.put n dd p)) (fun _ _ => False) := rfl
theorem wDr_qg (all : List Oper) (K : St → Prop) (KP : PVal → St → Prop) (i : Nat) (nd : List Nat) (dd : Option Nat) (op : Op) (ty : TypeId) (pos : String) (af : Array Edge) (j : Nat) (want : Bool) (r : List (Pl × Oper)) (pd : List Pd) (σ : St) :
    wDr C n all K KP ((⟨i, 0, false, nd⟩, { dst := dd, op := op, type := ty, pos := pos, after := af, guard := some (j, want) }) :: r) pd σ =
      gW (yld all σ.e j) want (wOp C op σ (fun p τ => wDr C n all K KP r pd (τ.put n dd p)) (fun _ _ => False)) (wDr C n all K KP r pd (σ.put n dd (.tuple []))) .mk := rfl
theorem wDr_l (all : List Oper) (K : St → Prop) (KP : PVal → St → Prop) (i : Nat) (kp : Bool) (nd : List Nat) (dd : Option Nat) (op : Op) (ty : TypeId) (pos : String) (af : Array Edge) (r : List (Pl × Oper)) (pd : List Pd) (σ : St) :
    wDr C n all K KP ((⟨i, 1, kp, nd⟩, { dst := dd, op := op, type := ty, pos := pos, after := af, guard := none }) :: r) pd σ =
      wOp C op σ (fun p τ => obl C all nd pd τ ∧ wDr C n all K KP r pd (τ.put n dd p)) (fun p τ => ∀ e, KP p ⟨e, τ.o, τ.l, τ.d⟩) := rfl
/-- A literal that nobody writes. -/
def wZ (C : Ctx) (op : Op) (σ : St) (K : PVal → Prop) : Prop := wOpZ C op σ K
theorem wZ_slice (t m : Nat) (ps : Array (Nat × Operand)) (σ : St) (K : PVal → Prop) : wZ C (.buildSlice t m ps) σ K = wBuildSliceZ C t m ps σ K := rfl
theorem wZ_box (e : TypeId) (x : Operand) (σ : St) (K : PVal → Prop) : wZ C (.box e x) σ K = wBoxZ e (val σ.e x) K := rfl
theorem wOpZ_det {op : Op} {σ : St} {K : PVal → Prop} (h : wOpZ C op σ K) : ∃ p, wOpZ C op σ (· = p) ∧ K p := by
  revert h
  unfold wOpZ
  split
  · unfold wBuildSliceZ
    split
    · exact fun h => ⟨_, ⟨h.1, h.2.1, h.2.2.1, h.2.2.2.1, rfl⟩, h.2.2.2.2⟩
    · exact fun h => h.elim
  · exact fun h => ⟨_, ⟨h.1, rfl⟩, h.2⟩
  · exact fun h => h.elim
theorem wOpZ_mono {op : Op} {σ : St} {K K' : PVal → Prop} (hK : ∀ q, K q → K' q) (h : wOpZ C op σ K) : wOpZ C op σ K' := by
  unfold wOpZ at h ⊢
  split at h
  · exact wBuildSliceZ_mono hK h
  · exact ⟨h.1, hK _ h.2⟩
  · exact h
theorem wDr_z (all : List Oper) (K : St → Prop) (KP : PVal → St → Prop) (i : Nat) (nd : List Nat) (dd : Option Nat) (op : Op) (ty : TypeId) (pos : String) (af : Array Edge) (r : List (Pl × Oper)) (pd : List Pd) (σ : St) :
    wDr C n all K KP ((⟨i, 2, false, nd⟩, { dst := dd, op := op, type := ty, pos := pos, after := af, guard := none }) :: r) pd σ =
      wZ C op σ (fun p => wDr C n all K KP r pd (σ.put n dd p)) := by
  have : wDr C n all K KP ((⟨i, 2, false, nd⟩, { dst := dd, op := op, type := ty, pos := pos, after := af, guard := none }) :: r) pd σ = ∃ p, wOpZ C op σ (· = p) ∧ wDr C n all K KP r pd (σ.put n dd p) := rfl
  rw [this]
  exact propext ⟨fun ⟨p, h1, h2⟩ => wOpZ_mono (K := (· = p)) (fun q hq => by rw [hq]; exact h2) h1, fun h => wOpZ_det h⟩
theorem wDr_c (all : List Oper) (K : St → Prop) (KP : PVal → St → Prop) (i : Nat) (nd : List Nat) (dd : Option Nat) (op : Op) (ty : TypeId) (pos : String) (af : Array Edge) (r : List (Pl × Oper)) (pd : List Pd) (σ : St) :
    wDr C n all K KP ((⟨i, 3, false, nd⟩, { dst := dd, op := op, type := ty, pos := pos, after := af, guard := none }) :: r) pd σ =
      ∃ p, wOp C op σ (fun q τ => q = p ∧ τ = σ) (fun _ _ => False) ∧ wDr C n all K KP r pd (σ.put n dd p) := rfl
theorem obl_nil (all : List Oper) (nd : List Nat) (σ : St) : obl C all nd [] σ = True := rfl
theorem obl_cons (all : List Oper) (nd : List Nat) (k : Nat) (dd : Option Nat) (op : Op) (ty : TypeId) (pos : String) (af : Array Edge) (e : Env) (p : PVal) (r : List Pd) (σ : St) :
    obl C all nd (⟨k, 0, { dst := dd, op := op, type := ty, pos := pos, after := af, guard := none }, e, p⟩ :: r) σ =
      ((hasN nd k = true → wOp C op ⟨e, σ.o, σ.l, σ.d⟩ (fun q τ => q = p ∧ τ = ⟨e, σ.o, σ.l, σ.d⟩) (fun _ _ => False)) ∧ obl C all nd r σ) := rfl

inductive TagD (all : List Oper) (K : St → Prop) (KP : PVal → St → Prop) (r : List (Pl × Oper)) (pd : List Pd) : Type where
  | mk
def wDrX (C : Ctx) (n : Nat) (all : List Oper) (K : St → Prop) (KP : PVal → St → Prop) (r : List (Pl × Oper)) (pd : List Pd) (σ : St) (_ : TagD all K KP r pd) : Prop := wDr C n all K KP r pd σ
inductive TagB (all : List Oper) (nd : List Nat) (pd : List Pd) : Type where
  | mk
def oblX (C : Ctx) (all : List Oper) (nd : List Nat) (pd : List Pd) (σ : St) (_ : TagB all nd pd) : Prop := obl C all nd pd σ

/-- The walk of a drawn region: bundled. -/
theorem ED : (∀ (C : Ctx) n (all : List Oper) K KP pd σ u, wDrX C n all K KP [] pd σ u = K σ) ∧
    (∀ (C : Ctx) n (all : List Oper) (K : St → Prop) (KP : PVal → St → Prop) (i : Nat) (nd : List Nat) (dd : Option Nat) (op : Op) (ty : TypeId) (pos : String) (af : Array Edge) (r : List (Pl × Oper)) (pd : List Pd) (σ : St) u,
      wDrX C n all K KP ((⟨i, 0, false, nd⟩, { dst := dd, op := op, type := ty, pos := pos, after := af, guard := none }) :: r) pd σ u = wOpX C op σ (fun p τ => wDrX C n all K KP r pd (τ.put n dd p) .mk) (fun _ _ => False) .mk) ∧
    (∀ (C : Ctx) n (all : List Oper) (K : St → Prop) (KP : PVal → St → Prop) (i : Nat) (nd : List Nat) (dd : Option Nat) (op : Op) (ty : TypeId) (pos : String) (af : Array Edge) (r : List (Pl × Oper)) (pd : List Pd) (e : Env) (o l : List Blk) (d : List PDef) u,
      wDrX C n all K KP ((⟨i, 0, true, nd⟩, { dst := dd, op := op, type := ty, pos := pos, after := af, guard := none }) :: r) pd ⟨e, o, l, d⟩ u =
        wOpX C op ⟨e, o, l, d⟩ (fun p τ => wDrX C n all K KP r (⟨i, 0, { dst := dd, op := op, type := ty, pos := pos, after := af, guard := none }, e, p⟩ :: pd) (τ.put n dd p) .mk) (fun _ _ => False) .mk) ∧
    (∀ (C : Ctx) n (all : List Oper) (K : St → Prop) (KP : PVal → St → Prop) (i : Nat) (nd : List Nat) (dd : Option Nat) (op : Op) (ty : TypeId) (pos : String) (af : Array Edge) (j : Nat) (want : Bool) (r : List (Pl × Oper)) (pd : List Pd) (σ : St) u,
      wDrX C n all K KP ((⟨i, 0, false, nd⟩, { dst := dd, op := op, type := ty, pos := pos, after := af, guard := some (j, want) }) :: r) pd σ u =
        gW (yld all σ.e j) want (wOpX C op σ (fun p τ => wDrX C n all K KP r pd (τ.put n dd p) .mk) (fun _ _ => False) .mk) (wDrX C n all K KP r pd (σ.put n dd (.tuple [])) .mk) .mk) ∧
    (∀ (C : Ctx) n (all : List Oper) (K : St → Prop) (KP : PVal → St → Prop) (i : Nat) (kp : Bool) (nd : List Nat) (dd : Option Nat) (op : Op) (ty : TypeId) (pos : String) (af : Array Edge) (r : List (Pl × Oper)) (pd : List Pd) (σ : St) u,
      wDrX C n all K KP ((⟨i, 1, kp, nd⟩, { dst := dd, op := op, type := ty, pos := pos, after := af, guard := none }) :: r) pd σ u =
        wOpX C op σ (fun p τ => oblX C all nd pd τ .mk ∧ wDrX C n all K KP r pd (τ.put n dd p) .mk) (fun p τ => ∀ e, KP p ⟨e, τ.o, τ.l, τ.d⟩) .mk) ∧
    (∀ (C : Ctx) t m ps σ K, wZ C (.buildSlice t m ps) σ K = wBuildSliceZ C t m ps σ K) ∧ (∀ (C : Ctx) e x σ K, wZ C (.box e x) σ K = wBoxZ e (val σ.e x) K) ∧
    (∀ (C : Ctx) n (all : List Oper) (K : St → Prop) (KP : PVal → St → Prop) (i : Nat) (nd : List Nat) (dd : Option Nat) (op : Op) (ty : TypeId) (pos : String) (af : Array Edge) (r : List (Pl × Oper)) (pd : List Pd) (σ : St) u,
      wDrX C n all K KP ((⟨i, 2, false, nd⟩, { dst := dd, op := op, type := ty, pos := pos, after := af, guard := none }) :: r) pd σ u = wZ C op σ (fun p => wDrX C n all K KP r pd (σ.put n dd p) .mk)) ∧
    (∀ (C : Ctx) n (all : List Oper) (K : St → Prop) (KP : PVal → St → Prop) (i : Nat) (nd : List Nat) (dd : Option Nat) (op : Op) (ty : TypeId) (pos : String) (af : Array Edge) (r : List (Pl × Oper)) (pd : List Pd) (σ : St) u,
      wDrX C n all K KP ((⟨i, 3, false, nd⟩, { dst := dd, op := op, type := ty, pos := pos, after := af, guard := none }) :: r) pd σ u = ∃ p, wOpX C op σ (fun q τ => q = p ∧ τ = σ) (fun _ _ => False) .mk ∧ wDrX C n all K KP r pd (σ.put n dd p) .mk) ∧
    (∀ (C : Ctx) all nd σ u, oblX C all nd [] σ u = True) ∧
    (∀ (C : Ctx) (all : List Oper) (nd : List Nat) (k : Nat) (dd : Option Nat) (op : Op) (ty : TypeId) (pos : String) (af : Array Edge) (e : Env) (p : PVal) (r : List Pd) (σ : St) u,
      oblX C all nd (⟨k, 0, { dst := dd, op := op, type := ty, pos := pos, after := af, guard := none }, e, p⟩ :: r) σ u =
        ((hasN nd k = true → wOpX C op ⟨e, σ.o, σ.l, σ.d⟩ (fun q τ => q = p ∧ τ = ⟨e, σ.o, σ.l, σ.d⟩) (fun _ _ => False) .mk) ∧ oblX C all nd r σ .mk)) ∧
    (∀ k, hasN [] k = false) ∧ (∀ a r k, hasN (a :: r) k = if a = k then true else hasN r k) :=
  ⟨fun _ _ _ _ _ _ _ _ => rfl, fun _ _ _ _ _ _ _ _ _ _ _ _ _ _ _ _ => rfl, fun _ _ _ _ _ _ _ _ _ _ _ _ _ _ _ _ _ _ _ => rfl, fun _ _ _ _ _ _ _ _ _ _ _ _ _ _ _ _ _ _ => rfl, fun _ _ _ _ _ _ _ _ _ _ _ _ _ _ _ _ _ => rfl, fun _ => wZ_slice, fun _ => wZ_box,
   fun _ _ all K KP i nd dd op ty pos af r pd σ _ => wDr_z all K KP i nd dd op ty pos af r pd σ, fun _ _ _ _ _ _ _ _ _ _ _ _ _ _ _ _ => rfl, fun _ _ _ _ _ => rfl, fun _ _ _ _ _ _ _ _ _ _ _ _ _ _ => rfl, hasN_nil, hasN_cons⟩
theorem EPl : (∀ all, planOf all [] = []) ∧ (∀ all x r, planOf all (x :: r) = match all[x.i]? with
      | some o => (x, o) :: planOf all r
      | none => []) := ⟨fun _ => rfl, fun _ _ _ => rfl⟩

/-- The operations, undone one layer at a time (to be used before the parts are looked at). -/
theorem EW :
    (∀ (C : Ctx) t p q σ (K : PVal → St → Prop), wMakeSlice C t p q σ K = match p, q with
      | .int _ l, .int _ c => match slq C.P t with
        | some (e, n, by') => match tz C.P e with
          | some z => 0 < n ∧ 0 ≤ l ∧ l ≤ c ∧ c.toNat * n ≤ 16777216 ∧ (by' : Int) * c ≤ 281474976710656 ∧ c ≤ 9223372036854775807 ∧
            K (.ref (.l σ.l.length) 0 l.toNat) (pushBlk σ (.row (List.replicate l.toNat z) n e))
          | none => False
        | none => False
      | _, _ => False) ∧
    (∀ (C : Ctx) t p σ (K : PVal → Prop), wLoad C t p σ K = match tyq C.P t with
      | none => False
      | some (ag, n) => match p with
        | .ptr r i off => match blkAt σ.o σ.l r with
          | some (.row elems _ _) => match elems[i]? with
            | some x => loadCs ag n x.cells off K
            | none => False
          | _ => False
        | .eptr x off => loadCs ag n x.cells off K
        | .gptr g off => match C.G g with
          | some cs => loadCs ag n cs off K
          | none => False
        | _ => False) ∧
    (∀ (C : Ctx) t p v σ (K : St → Prop), wStore C t p v σ K = match tyq C.P t with
      | none => False
      | some (_, n) => v.solid = true ∧ v.cells.length = n ∧ match p with
        | .ptr r i off => match blkAt σ.o σ.l r with
          | some (.row elems size ty) => match elems[i]? with
            | some x => putc x off v fun y => K (setBlk σ r (.row (elems.set i y) size ty))
            | none => False
          | _ => False
        | _ => False) ∧
    (∀ p σ (K : PVal → Prop), wNilCheck p σ K = match p with
      | .ptr r i o => match blkAt σ.o σ.l r with
        | some (.row _ _ _) => K (.ptr r i o)
        | some (.iter _ _) => K (.ptr r i o)
        | _ => False
      | .eptr x o => K (.eptr x o)
      | .gptr g o => K (.gptr g o)
      | .iface t v => K (.iface t v)
      | .fn (.func f) a b => K (.fn (.func f) a b)
      | _ => False) ∧
    (∀ (C : Ctx) s p f σ (K : PVal → Prop), wFieldAddr C s p f σ K = match fq C.P s f with
      | some (off, _, n) => 0 < n ∧ match p with
        | .ptr r i o => match blkAt σ.o σ.l r with
          | some (.row _ _ _) => K (.ptr r i (o + off))
          | _ => False
        | .eptr x o => K (.eptr x (o + off))
        | .gptr g o => K (.gptr g (o + off))
        | _ => False
      | none => False) ∧
    (∀ (C : Ctx) t p f (K : PVal → Prop), wField C t p f K = match fq C.P t f with
      | some (off, ag, n) => match p with
        | .agg cs => loadCs ag n cs off K
        | _ => False
      | none => False) ∧
    (∀ (C : Ctx) t p ix σ (K : PVal → Prop), wIndexAddr C t p ix σ K = match ix with
      | .int _ i => match p with
        | .ref r off len => match slq C.P t, blkAt σ.o σ.l r with
          | some (_, n, _), some (.row _ size _) => n = size ∧ 0 ≤ i ∧ i < len ∧ K (.ptr r (off + i.toNat) 0)
          | _, _ => False
        | .slc xs => match slq C.P t with
          | some (_, n, _) => 0 ≤ i ∧ i < xs.length ∧ (gi xs i.toNat).cells.length = n ∧ K (.eptr (gi xs i.toNat) 0)
          | none => False
        | .gptr g off => match aq C.P t with
          | some (n, e) => match tyq C.P e with
            | some (_, m) => 0 ≤ i ∧ i < n ∧ K (.gptr g (off + i.toNat * m))
            | none => False
          | none => False
        | _ => False
      | _ => False) ∧
    (∀ (C : Ctx) t p ix (K : PVal → Prop), wIndex C t p ix K = match ix with
      | .int _ i => match p with
        | .str s => (C.P.underlying t = some .string) ∧ 0 ≤ i ∧ i < s.length ∧ K (.int .u8 (gb s i.toNat))
        | .agg cs => match aq C.P t with
          | some (n, e) => match tyq C.P e with
            | some (ag, m) => 0 ≤ i ∧ i < n ∧ loadCs ag m cs (i.toNat * m) K
            | none => False
          | none => False
        | _ => False
      | _ => False) ∧
    (∀ (C : Ctx) t p lo hi σ (K : PVal → Prop), wSlice C t p lo hi σ K = match p with
      | .str s => C.P.underlying t = some .string ∧ match bnd lo 0, bnd hi s.length with
        | some l, some h => 0 ≤ l ∧ l ≤ h ∧ h ≤ s.length ∧ K (.str ((s.drop l.toNat).take (h.toNat - l.toNat)))
        | _, _ => False
      | .slc xs => match slq C.P t, bnd lo 0, bnd hi xs.length with
        | some (_, n, _), some l, some h => 0 ≤ l ∧ l ≤ h ∧ h ≤ xs.length ∧ (∀ x ∈ xs, x.cells.length = n) ∧ K (.slc ((xs.drop l.toNat).take (h.toNat - l.toNat)))
        | _, _, _ => False
      | .ref r off len => match slq C.P t, bnd lo 0, bnd hi len, blkAt σ.o σ.l r with
        | some (_, n, _), some l, some h, some (.row _ size _) => n = size ∧ 0 ≤ l ∧ l ≤ h ∧ h ≤ len ∧ K (.ref r (off + l.toNat) (h.toNat - l.toNat))
        | _, _, _, _ => False
      | .nils => match slq C.P t, bnd lo 0, bnd hi 0 with
        | some _, some l, some h => l = 0 ∧ h = 0 ∧ K .nils
        | _, _, _ => False
      | _ => False) ∧
    (∀ (C : Ctx) op t x y p q σ (K : PVal → Prop), wBin C op t x y p q σ K = match p, q with
      | .int k a, .int k' b => wInt op k a k' b K
      | .str a, .str b => wStr op a b K
      | .bool a, .bool b => C.P.underlying t = some .bool ∧ wEqs op (decide (a = b)) K
      | .agg xs, .agg ys => match feq C.P t, eqL xs ys with
        | some ks, some b => ks = xs.map kindOf ∧ wEqs op b K
        | _, _ => False
      | .niliface, .niliface => ifq C.P t = true ∧ (isC x || isC y) = true ∧ wEqs op true K
      | .iface _ _, .niliface => ifq C.P t = true ∧ wEqs op false K
      | .nilp, .nilp => ptq C.P t = true ∧ wEqs op true K
      | .ptr r _ _, .nilp => ptq C.P t = true ∧ (match blkAt σ.o σ.l r with | some .dead => False | none => False | _ => True) ∧ wEqs op false K
      | _, _ => False) ∧
    (∀ op p (K : PVal → Prop), wUn op p K = match op, p with
      | .neg, .int k n => K (.int k (k.wrap (0 - n)))
      | .not, .bool b => K (.bool (!b))
      | .xor, .int k n => K (.int k (Go.bits .xor k (if k.signed then -1 else k.max) n))
      | _, _ => False) ∧
    (∀ (C : Ctx) t p (K : PVal → Prop), wMakeIface C t p K = (ccq C.P t = true ∧ K (.iface t p))) ∧
    (∀ p i (K : PVal → Prop), wExtract p i K = match p with
      | .tuple ps => match ps[i]? with
        | some q => K q
        | none => False
      | _ => False) ∧
    (∀ (C : Ctx) e σ (K : PVal → St → Prop), wAlloc C e σ K = match tz C.P e with
      | some z => wBox e z σ K
      | none => False) ∧
    (∀ e p σ (K : PVal → St → Prop), wBox e p σ K = (p.solid = true ∧ K (.ptr (.l σ.l.length) 0 0) (pushBlk σ (.row [p] p.cells.length e)))) ∧
    (∀ e p (K : PVal → Prop), wBoxZ e p K = (p.solid = true ∧ K (.eptr p 0))) ∧
    (∀ (C : Ctx) t (l : List (Nat × Operand)) e (K : PVal → Prop), wBuild C t l.toArray e K = match bq C.P t with
      | some (zs, pl) => wParts (fun i => pl[i]?) e zs l fun cs => K (.agg cs)
      | none => match abq C.P t with
        | some (zs, n) => wParts (fun i => some (i * n, n)) e zs l fun cs => K (.agg cs)
        | none => False) ∧
    (∀ place e zs (K : List PVal → Prop), wParts place e zs [] K = K zs) ∧
    (∀ (place : Nat → Option (Nat × Nat)) e zs i x r (K : List PVal → Prop), wParts place e zs ((i, x) :: r) K = match place i with
      | some (off, n) => (val e x).solid = true ∧ (val e x).cells.length = n ∧ off + n ≤ zs.length ∧ wParts place e (splice zs off (val e x).cells) r K
      | none => False) ∧
    (∀ (C : Ctx) t len (l : List (Nat × Operand)) σ (K : PVal → St → Prop), wBuildSlice C t len l.toArray σ K = match slq C.P t, dense 0 l with
      | some (e, n, _), some xs => xs.length = len ∧ len * n ≤ 16777216 ∧ 0 < n ∧ okCells n (xs.map (val σ.e)) ∧ K (.ref (.l σ.l.length) 0 len) (pushBlk σ (.row (xs.map (val σ.e)) n e))
      | _, _ => False) ∧
    (∀ (C : Ctx) t len (l : List (Nat × Operand)) σ (K : PVal → Prop), wBuildSliceZ C t len l.toArray σ K = match slq C.P t, dense 0 l with
      | some (_, n, _), some xs => xs.length = len ∧ len * n ≤ 16777216 ∧ 0 < n ∧ okCells n (xs.map (val σ.e)) ∧ K (.slc (xs.map (val σ.e)))
      | _, _ => False) ∧
    (∀ (C : Ctx) (ts : List TypeId) as σ (K KP : PVal → St → Prop), wBuiltin C .len ts.toArray as σ K KP = match as, ts with
      | [p], [t] => (match p with | .ref r _ _ => (match blkAt σ.o σ.l r with | some (.row _ _ _) => True | _ => False) | _ => True) ∧ wLen C t p fun q => K q σ
      | _, _ => False) ∧
    (∀ (C : Ctx) (ts : List TypeId) as σ (K KP : PVal → St → Prop), wBuiltin C .append ts.toArray as σ K KP = match as, ts with
      | [p, q], [t, tx] => wAppend C t tx p q σ K
      | _, _ => False) ∧
    (∀ (C : Ctx) t tx p q σ (K : PVal → St → Prop), wAppend C t tx p q σ K = match slq C.P t, srcOf C tx q σ with
      | some (e, n, by'), some ys => 0 < n ∧ 0 < ys.length ∧ (∀ y ∈ ys, y.cells.length = n) ∧ match p with
        | .nils => ys.length * by' ≤ 140737488355328 ∧ ys.length ≤ 9223372036854775807 ∧ K (.ref (.l σ.l.length) 0 ys.length) (pushBlk σ (.row ys n e))
        | .ref r off len => match blkAt σ.o σ.l r with
          | some (.row elems size ty) => size = n ∧ ty = e ∧ off + len = elems.length ∧ (len + ys.length) * by' ≤ 140737488355328 ∧ len + ys.length ≤ 9223372036854775807 ∧
            K (.ref (.l σ.l.length) 0 (len + ys.length)) (pushBlk (setBlk σ r .dead) (.row (elems.drop off ++ ys) n e))
          | _ => False
        | _ => False
      | _, _ => False) ∧
    (∀ (C : Ctx) tx q σ, srcOf C tx q σ = match q with
      | .slc ys => if (slq C.P tx).isSome then some ys else none
      | .nils => if (slq C.P tx).isSome then some [] else none
      | .ref r off len => match blkAt σ.o σ.l r with
        | some (.row elems _ _) => if (slq C.P tx).isSome && decide (off + len ≤ elems.length) then some ((elems.drop off).take len) else none
        | _ => none
      | _ => none) ∧
    (∀ (C : Ctx) t p (K : PVal → Prop), wLen C t p K = match p with
      | .str s => C.P.underlying t = some .string ∧ K (.int .i64 s.length)
      | .slc xs => (slq C.P t).isSome = true ∧ K (.int .i64 xs.length)
      | .ref _ _ n => (slq C.P t).isSome = true ∧ K (.int .i64 n)
      | .nils => (slq C.P t).isSome = true ∧ K (.int .i64 0)
      | .agg _ => match aq C.P t with
        | some (n, _) => K (.int .i64 n)
        | none => False
      | _ => False) ∧
    (∀ (C : Ctx) s d p σ (K : PVal → St → Prop), wConv C s d p σ K = match p with
      | .int _ n => match inq C.P s, inq C.P d with
        | some _, some k => K (.int k (k.wrap n)) σ
        | _, _ => False
      | .str x => C.P.underlying s = some .string ∧ C.P.underlying d = some .string ∧ K (.str x) σ
      | .slc xs => byq C.P s = true ∧ C.P.underlying d = some .string ∧ match bytesOf xs with
        | some bs => K (.str bs) σ
        | none => False
      | _ => False) :=
  ⟨fun _ _ _ _ _ _ => rfl, fun _ _ _ _ _ => rfl, fun _ _ _ _ _ _ => rfl, fun _ _ _ => rfl, fun _ _ _ _ _ _ => rfl, fun _ _ _ _ _ => rfl, fun _ _ _ _ _ _ => rfl, fun _ _ _ _ _ => rfl, fun _ _ _ _ _ _ _ => rfl, fun _ _ _ _ _ _ _ _ _ => rfl,
   fun _ _ _ => rfl, fun _ _ _ _ => rfl, fun _ _ _ => rfl, fun _ _ _ _ => rfl, fun _ _ _ _ => rfl, fun _ _ _ => rfl, fun _ _ _ _ _ => rfl, fun _ _ _ _ => rfl, fun _ _ _ _ _ _ _ => rfl, fun _ _ _ _ _ _ => rfl, fun _ _ _ _ _ _ => rfl,
   fun _ ts as _ _ _ => (by unfold wBuiltin; rfl), fun _ ts as _ _ _ => (by unfold wBuiltin; rfl), fun _ _ _ _ _ _ _ => rfl, fun _ _ _ _ => rfl, fun _ _ _ _ => rfl, fun _ _ _ _ _ _ => rfl⟩

/-- Numbers, strings: each operator. -/
theorem EI :
    (∀ k a k' b (K : PVal → Prop), wInt .add k a k' b K = (k = k' ∧ K (.int k (k.wrap (a + b))))) ∧ (∀ k a k' b (K : PVal → Prop), wInt .sub k a k' b K = (k = k' ∧ K (.int k (k.wrap (a - b))))) ∧
    (∀ k a k' b (K : PVal → Prop), wInt .mul k a k' b K = (k = k' ∧ K (.int k (k.wrap (a * b))))) ∧ (∀ k a k' b (K : PVal → Prop), wInt .quo k a k' b K = (k = k' ∧ b ≠ 0 ∧ K (.int k (k.wrap (a.tdiv b))))) ∧
    (∀ k a k' b (K : PVal → Prop), wInt .rem k a k' b K = (k = k' ∧ b ≠ 0 ∧ K (.int k (a.tmod b)))) ∧
    (∀ k a k' b (K : PVal → Prop), wInt .eql k a k' b K = (k = k' ∧ K (.bool (decide (a = b))))) ∧ (∀ k a k' b (K : PVal → Prop), wInt .neq k a k' b K = (k = k' ∧ K (.bool (!decide (a = b))))) ∧
    (∀ k a k' b (K : PVal → Prop), wInt .lss k a k' b K = (k = k' ∧ K (.bool (decide (a < b))))) ∧ (∀ k a k' b (K : PVal → Prop), wInt .leq k a k' b K = (k = k' ∧ K (.bool (decide (a ≤ b))))) ∧
    (∀ k a k' b (K : PVal → Prop), wInt .gtr k a k' b K = (k = k' ∧ K (.bool (decide (b < a))))) ∧ (∀ k a k' b (K : PVal → Prop), wInt .geq k a k' b K = (k = k' ∧ K (.bool (decide (b ≤ a))))) ∧
    (∀ k a k' b (K : PVal → Prop), wInt .and k a k' b K = (k = k' ∧ K (.int k (Go.bits .and k a b)))) ∧ (∀ k a k' b (K : PVal → Prop), wInt .or k a k' b K = (k = k' ∧ K (.int k (Go.bits .or k a b)))) ∧
    (∀ a b (K : PVal → Prop), wStr .add a b K = (a.length + b.length ≤ 9223372036854775807 ∧ K (.str (a ++ b)))) ∧ (∀ a b (K : PVal → Prop), wStr .eql a b K = K (.bool (decide (a = b)))) ∧ (∀ a b (K : PVal → Prop), wStr .neq a b K = K (.bool (!decide (a = b)))) ∧
    (∀ b (K : PVal → Prop), wEqs .eql b K = K (.bool b)) ∧ (∀ b (K : PVal → Prop), wEqs .neq b K = K (.bool (!b))) :=
  ⟨fun _ _ _ _ _ => rfl, fun _ _ _ _ _ => rfl, fun _ _ _ _ _ => rfl, fun _ _ _ _ _ => rfl, fun _ _ _ _ _ => rfl, fun _ _ _ _ _ => rfl, fun _ _ _ _ _ => rfl, fun _ _ _ _ _ => rfl, fun _ _ _ _ _ => rfl, fun _ _ _ _ _ => rfl, fun _ _ _ _ _ => rfl, fun _ _ _ _ _ => rfl,
   fun _ _ _ _ _ => rfl, fun _ _ _ => rfl, fun _ _ _ => rfl, fun _ _ _ => rfl, fun _ _ => rfl, fun _ _ => rfl⟩

/-- What a value may be stored as; cells put in the place of cells. -/
theorem EP : (∀ k m, (PVal.int k m).solid = true) ∧ (∀ s, (PVal.str s).solid = true) ∧ (∀ b, (PVal.bool b).solid = true) ∧ (∀ cs, (PVal.agg cs).solid = true) ∧ (∀ cs, (PVal.slc cs).solid = true) ∧ (∀ r i o, (PVal.ptr r i o).solid = true) ∧
    (∀ r i o, (PVal.ref r i o).solid = true) ∧ (PVal.nils.solid = true) ∧ (PVal.nilp.solid = true) ∧ (∀ x o, (PVal.eptr x o).solid = true) ∧ (∀ f a b, (PVal.fn f a b).solid = true) ∧ (∀ t v, (PVal.iface t v).solid = true) ∧ (PVal.niliface.solid = true) ∧
    (∀ cs off v (K : PVal → Prop), putc (.agg cs) off v K = (off + v.cells.length ≤ cs.length ∧ K (.agg (splice cs off v.cells)))) ∧
    (∀ k m off k' m' (K : PVal → Prop), putc (.int k m) off (.int k' m') K = (off = 0 ∧ K (.int k' m'))) ∧ (∀ m off m' (K : PVal → Prop), putc (.bool m) off (.bool m') K = (off = 0 ∧ K (.bool m'))) ∧
    (∀ m off m' (K : PVal → Prop), putc (.str m) off (.str m') K = (off = 0 ∧ K (.str m'))) ∧
    (∀ cs off vs, splice cs off vs = cs.take off ++ vs ++ cs.drop (off + vs.length)) ∧
    (∀ n, okCells n [] = True) ∧ (∀ n p r, okCells n (p :: r) = (p.solid = true ∧ p.cells.length = n ∧ okCells n r)) ∧
    (∀ i, dense i [] = some []) ∧ (∀ i j x r, dense i ((j, x) :: r) = if i = j then (dense (i + 1) r).map (x :: ·) else none) ∧
    (∀ d, bnd none d = some (d : Int)) ∧ (∀ d k i, bnd (some (.int k i)) d = some i) ∧ (∀ f t v, (PVal.iface t v).cells = [.iface t v] ∧ (PVal.fn f [] []).cells = [.fn f [] []]) :=
  ⟨fun _ _ => rfl, fun _ => rfl, fun _ => rfl, fun _ => rfl, fun _ => rfl, fun _ _ _ => rfl, fun _ _ _ => rfl, rfl, rfl, fun _ _ => rfl, fun _ _ _ => rfl, fun _ _ => rfl, rfl, fun _ _ _ _ => rfl, fun _ _ _ _ _ _ => rfl, fun _ _ _ _ => rfl, fun _ _ _ _ => rfl, fun _ _ _ => rfl,
   fun _ => rfl, fun _ _ _ => rfl, fun _ => rfl, fun i j x r => by
     simp only [dense]
     cases h : Nat.beq i j with
     | true => rw [if_pos (Nat.eq_of_beq_eq_true h)]; rfl
     | false => rw [if_neg (fun e => by subst e; simp at h)]; rfl, fun _ => rfl, fun _ _ _ => rfl, fun _ _ _ => ⟨rfl, rfl⟩⟩

/-- Lists that are written out. -/
theorem EL : (∀ {α : Type} (a : α) (l : List α), (a :: l)[0]? = some a) ∧ (∀ {α : Type} (a : α) (l : List α) (i : Nat), (a :: l)[i + 1]? = l[i]?) ∧ (∀ {α : Type} (i : Nat), ([] : List α)[i]? = none) ∧ (∀ {α : Type} (a : α) (l : List α), (a :: l).length = l.length + 1) ∧ (∀ {α : Type}, ([] : List α).length = 0) ∧
    (∀ {α : Type} (a : α) (l : List α) (i : Nat), (a :: l).take (i + 1) = a :: l.take i) ∧ (∀ {α : Type} (l : List α), l.take 0 = []) ∧ (∀ {α : Type} (i : Nat), ([] : List α).take i = []) ∧
    (∀ {α : Type} (a : α) (l : List α) (i : Nat), (a :: l).drop (i + 1) = l.drop i) ∧ (∀ {α : Type} (l : List α), l.drop 0 = l) ∧ (∀ {α : Type} (i : Nat), ([] : List α).drop i = []) ∧
    (∀ {α : Type} (l : List α), [] ++ l = l) ∧ (∀ {α : Type} (a : α) (l r : List α), (a :: l) ++ r = a :: (l ++ r)) ∧ (∀ {α : Type} (l : List α), l ++ [] = l) ∧
    (∀ {α : Type} (a b : α) (l : List α), (a :: l).set 0 b = b :: l) ∧ (∀ {α : Type} (a b : α) (l : List α) (i : Nat), (a :: l).set (i + 1) b = a :: l.set i b) ∧
    (∀ {α β : Type} (f : α → β), [].map f = []) ∧ (∀ {α β : Type} (f : α → β) (a : α) (l : List α), (a :: l).map f = f a :: l.map f) ∧
    (∀ {α β : Type} (f : α → β), Option.map f none = none) ∧ (∀ {α β : Type} (f : α → β) (a : α), Option.map f (some a) = some (f a)) ∧
    (∀ p : Prop, (True ∧ p) = p) ∧ (∀ p : Prop, (p ∧ True) = p) ∧ (∀ {α : Type} (a : α), (some a).isSome = true) ∧ (∀ {α : Sort 1} (a : α), (a = a) = True) ∧ (∀ p : Prop, (True → p) = p) ∧ ((∀ p : Prop, (False → p) = True)) ∧ (((0 : Nat) : Int) = 0) ∧ (((1 : Nat) : Int) = 1) ∧ (∀ n : Nat, (0 ≤ n) = True) ∧ (∀ n : Nat, ((n : Int)).toNat = n) ∧
    (∀ r b, eqC (.bool r) (.bool b) = some (decide (r = b))) ∧ (∀ i o, eqC (.int .i64 i) (.int .i64 o) = some (decide (i = o))) ∧ (∀ s t, eqC (.str s) (.str t) = some (decide (s = t))) ∧ (eqL [] [] = some true) ∧
    (∀ x xs y ys, eqL (x :: xs) (y :: ys) = match eqC x y, eqL xs ys with
      | some a, some b => some (a && b)
      | _, _ => none) ∧ (∀ k m, kindOf (.int k m) = 1) ∧ (∀ b, kindOf (.bool b) = 2) ∧ (∀ s, kindOf (.str s) = 3) :=
  ⟨by simp, by simp, by simp, by simp, by simp, by simp, by simp, by simp, by simp, by simp, by simp, by simp, by simp, by simp, by simp, by simp, by simp, by simp, by simp, by simp, by simp, by simp, by simp, by simp, by simp, by simp, by simp, by simp, by simp, by simp,
   fun r b => rfl, fun i o => (by simp [eqC]), fun _ _ => rfl, rfl, fun _ _ _ _ => rfl, fun _ _ => rfl, fun _ => rfl, fun _ => rfl⟩

theorem WC.ds {id : Nat} {l : List Oper} {y : Code} {σ : St} {Q : AEx → St → Prop} (plan : List Pl) (rows : List Nat) (hm : C.P.follows .mixedOrders = true) (hB : drawB l.toArray plan rows = true)
    {r : List (Pl × Oper)} (hr : planOf l plan = r) (h : ∀ K : St → Prop, (∀ σ', WC C n y σ' Q → K σ') → wDrX C n l K (fun p σ' => Q (.pan p) σ') r [] σ .mk) : WC C n (.seq (.region id l.toArray true) y) σ Q :=
  by subst hr; exact WC.seq (WC.draw plan rows hm hB (h _ fun _ h => h))
theorem WC.d1 {id : Nat} {l : List Oper} {σ : St} {Q : AEx → St → Prop} (plan : List Pl) (rows : List Nat) (hm : C.P.follows .mixedOrders = true) (hB : drawB l.toArray plan rows = true)
    {r : List (Pl × Oper)} (hr : planOf l plan = r) (h : wDrX C n l (Q .normal) (fun p σ' => Q (.pan p) σ') r [] σ .mk) : WC C n (.region id l.toArray true) σ Q := by subst hr; exact WC.draw plan rows hm hB h

/-- What is asked for no more is forgotten. -/
def trimE (keep : List Nat) : Env → Env
  | [] => []
  | (k, v) :: r => match hasN keep k with
    | true => (k, v) :: trimE keep r
    | false => trimE keep r
theorem gt_trimE (keep : List Nat) (t : Nat) : ∀ e : Env, gt (trimE keep e) t = if hasN keep t = true then gt e t else .any
  | [] => by simp [trimE, gt]
  | (k, v) :: r => by
    simp only [trimE]
    cases h : hasN keep k with
    | true =>
      rw [gt_cons, gt_cons, gt_trimE keep t r]
      by_cases e : k = t
      · subst e; simp [h]
      · simp [e]
    | false =>
      show gt (trimE keep r) t = _
      rw [gt_cons, gt_trimE keep t r]
      by_cases e : k = t
      · subst e; simp [h]
      · simp [e]
theorem WC.trim (keep : List Nat) {c : Code} {e : Env} {o l : List Blk} {d : List PDef} {Q : AEx → St → Prop} (h : WC C n c ⟨trimE keep e, o, l, d⟩ Q) : WC C n c ⟨e, o, l, d⟩ Q := fun V a hR =>
  h V a ⟨hR.mem, fun t => by
    show Rep V (gt (trimE keep e) t) _
    rw [gt_trimE]
    split
    · exact hR.env t
    · exact .any, hR.tmps, hR.defers⟩
theorem ET : (∀ keep, trimE keep [] = []) ∧ (∀ keep k v r, trimE keep ((k, v) :: r) = match hasN keep k with
    | true => (k, v) :: trimE keep r
    | false => trimE keep r) ∧ (∀ k, hasN [] k = false) ∧ (∀ a r k, hasN (a :: r) k = if a = k then true else hasN r k) := ⟨fun _ => rfl, fun _ _ _ _ => rfl, hasN_nil, hasN_cons⟩
theorem wOps_mono {all : List Oper} {K K' : St → Prop} {KP KP' : PVal → St → Prop} (hK : ∀ σ, K σ → K' σ) (hP : ∀ p σ, KP p σ → KP' p σ) : ∀ {os : List Oper} {σ : St}, wOps C n all os σ K KP → wOps C n all os σ K' KP'
  | [], _, h => hK _ h
  | _ :: _, _, h => wStep_mono (fun _ _ hk => wOps_mono hK hP hk) hP h
/-- A row of operations, behind which the state is told anew. -/
theorem WC.rj {id : Nat} {l : List Oper} {y : Code} {σ : St} {Q : AEx → St → Prop} (σ0 : St) (h : wOpsX C n l l σ (fun σ' => ∃ θ, Conv σ' σ0 θ) (fun p σ' => Q (.pan p) σ') .mk) (hy : WC C n y σ0 Q) : WC C n (.seq (.region id l.toArray false) y) σ Q :=
  WC.rs fun K hK => by
    have : ∀ σ', (∃ θ, Conv σ' σ0 θ) → K σ' := fun σ' ⟨θ, hc⟩ => hK _ (WC.conv θ hc hy)
    exact wOps_mono this (fun _ _ h => h) h
/-- A piece of code, behind which the state is told anew, and P known. -/
theorem WC.sj {x y : Code} {σ : St} {Q : AEx → St → Prop} (P : Prop) (σ0 : St) (h : WC C n x σ (thenQ (fun σ' => P ∧ ∃ θ, Conv σ' σ0 θ) Q)) (hy : P → WC C n y σ0 Q) : WC C n (.seq x y) σ Q :=
  WC.seq (h.mono fun e σ' hq => by
    cases e with
    | normal => obtain ⟨hp, θ, hc⟩ := hq; exact WC.conv θ hc (hy hp)
    | exit i => exact hq
    | ret => exact hq
    | pan p => exact hq)
/-- Where a condition stands. -/
theorem WC.cs {c : Operand} {x y z : Code} {σ : St} {Q : AEx → St → Prop} {b : Bool} (hc : val σ.e c = .bool b)
    (h : ∀ K : St → Prop, (∀ σ', WC C n z σ' Q → K σ') → (b = true → WC C n x σ (thenQ K Q)) ∧ (b = false → WC C n y σ (thenQ K Q))) : WC C n (.seq (.cond c x y) z) σ Q :=
  WC.sK fun K hK => WC.cond hc (h K hK).1 (h K hK).2
theorem thenQ_n (K : St → Prop) (Q : AEx → St → Prop) (σ : St) : thenQ K Q .normal σ = K σ := rfl
theorem thenQ_r (K : St → Prop) (Q : AEx → St → Prop) (σ : St) : thenQ K Q .ret σ = Q .ret σ := rfl
theorem thenQ_e (K : St → Prop) (Q : AEx → St → Prop) (i : Nat) (σ : St) : thenQ K Q (.exit i) σ = Q (.exit i) σ := rfl
theorem thenQ_p (K : St → Prop) (Q : AEx → St → Prop) (p : PVal) (σ : St) : thenQ K Q (.pan p) σ = Q (.pan p) σ := rfl
theorem blkQ_n (id : Nat) (K : St → Prop) (Q : AEx → St → Prop) (σ : St) : blkQ id K Q .normal σ = K σ := rfl
theorem blkQ_r (id : Nat) (K : St → Prop) (Q : AEx → St → Prop) (σ : St) : blkQ id K Q .ret σ = Q .ret σ := rfl
theorem blkQ_e (id i : Nat) (K : St → Prop) (Q : AEx → St → Prop) (σ : St) : blkQ id K Q (.exit i) σ = if i = id then K σ else Q (.exit i) σ := rfl
theorem blkQ_p (id : Nat) (K : St → Prop) (Q : AEx → St → Prop) (p : PVal) (σ : St) : blkQ id K Q (.pan p) σ = Q (.pan p) σ := rfl
/-- The ends of pieces of code. -/
theorem EQ : (∀ K Q σ, thenQ K Q .normal σ = K σ) ∧ (∀ K Q σ, thenQ K Q .ret σ = Q .ret σ) ∧ (∀ K Q i σ, thenQ K Q (.exit i) σ = Q (.exit i) σ) ∧ (∀ K Q p σ, thenQ K Q (.pan p) σ = Q (.pan p) σ) ∧
    (∀ id K Q σ, blkQ id K Q .normal σ = K σ) ∧ (∀ id K Q σ, blkQ id K Q .ret σ = Q .ret σ) ∧ (∀ id i K Q σ, blkQ id K Q (.exit i) σ = if i = id then K σ else Q (.exit i) σ) ∧ (∀ id K Q p σ, blkQ id K Q (.pan p) σ = Q (.pan p) σ) :=
  ⟨fun _ _ _ => rfl, fun _ _ _ => rfl, fun _ _ _ _ => rfl, fun _ _ _ _ => rfl, fun _ _ _ _ => rfl, fun _ _ _ _ => rfl, fun _ _ _ _ _ => rfl, fun _ _ _ _ _ => rfl⟩
/-- Renaming, and what a state keeps. -/
theorem ER : (∀ f b, ren f (.bool b) = .bool b) ∧ (∀ f k m, ren f (.int k m) = .int k m) ∧ (∀ f s, ren f (.str s) = .str s) ∧ (∀ f, ren f .nilp = .nilp) ∧ (∀ f, ren f .nils = .nils) ∧ (∀ f, ren f .niliface = .niliface) ∧ (∀ f, ren f .nilfn = .nilfn) ∧ (∀ f, ren f .any = .any) ∧
    (∀ f r i o, ren f (.ptr r i o) = .ptr (f r) i o) ∧ (∀ f r i o, ren f (.ref r i o) = .ref (f r) i o) ∧ (∀ f g o, ren f (.gptr g o) = .gptr g o) ∧ (∀ f x o, ren f (.eptr x o) = .eptr (ren f x) o) ∧ (∀ f xs, ren f (.slc xs) = .slc (renL f xs)) ∧ (∀ f xs, ren f (.agg xs) = .agg (renL f xs)) ∧ (∀ f xs, ren f (.tuple xs) = .tuple (renL f xs)) ∧
    (∀ f g a b, ren f (.fn g a b) = .fn g (renL f a) (renL f b)) ∧ (∀ f t v, ren f (.iface t v) = .iface t (ren f v)) ∧ (∀ f, renL f [] = []) ∧ (∀ f x xs, renL f (x :: xs) = ren f x :: renL f xs) ∧ (∀ f xs s t, renB f (.row xs s t) = .row (renL f xs) s t) ∧ (∀ f, renB f .dead = .dead) ∧
    (∀ θ m j, thF θ m (.o j) = .o j) ∧ (∀ θ m j, thF θ m (.l j) = .l (θ.getD j m)) ∧ (∀ f e, EnvOk f e [] = True) ∧ (∀ f e k p r, EnvOk f e ((k, p) :: r) = (gt e k = ren f p ∧ EnvOk f e r)) ∧ (∀ l, pick l [] = some []) ∧ (∀ (a : Nat) l d, (a :: l).getD 0 d = a) ∧ (∀ (a : Nat) l i d, (a :: l).getD (i + 1) d = l.getD i d) ∧ (∀ l j js, pick l (j :: js) = match l[j]?, pick l js with
      | some k, some ks => some (k :: ks)
      | _, _ => none) :=
  ⟨fun _ _ => rfl, fun _ _ _ => rfl, fun _ _ => rfl, fun _ => rfl, fun _ => rfl, fun _ => rfl, fun _ => rfl, fun _ => rfl, fun _ _ _ _ => rfl, fun _ _ _ _ => rfl, fun _ _ _ => rfl, fun _ _ _ => rfl, fun _ _ => rfl, fun _ _ => rfl, fun _ _ => rfl, fun _ _ _ _ => rfl, fun _ _ _ => rfl, fun _ => rfl, fun _ _ _ => rfl,
   fun _ _ _ _ => rfl, fun _ => rfl, fun _ _ _ => rfl, fun _ _ _ => rfl, fun _ _ => rfl, fun _ _ _ _ _ => rfl, fun _ => rfl, fun _ _ _ => rfl, fun _ _ _ _ => rfl, fun _ _ _ => rfl⟩

theorem ClosedL.append {a b : List PVal} (h : ClosedL a) (k : ClosedL b) : ClosedL (a ++ b) := fun f => by
  rw [renL_map, List.map_append, ← renL_map, ← renL_map, h f, k f]
/-- The end of a function that hands back a closed value, its blocks as they are. -/
theorem endsSame {e : Env} {o l : List Blk} {d : List PDef} {p : PVal} {R : PVal → List Blk → Prop} (hp : Closed p) (ho : ∀ k ∈ o, ClosedB k) (h : R p o) : EndsIn ⟨e, o, l, d⟩ p R := EndsIn.plain hp ho h
theorem closedBs_nil : ∀ k ∈ ([] : List Blk), ClosedB k := fun k h => by cases h
theorem closedBs_cons {b : Blk} {o : List Blk} (h : ClosedB b) (k : ∀ k ∈ o, ClosedB k) : ∀ k ∈ b :: o, ClosedB k := fun x hx => by
  rcases List.mem_cons.1 hx with rfl | hx
  · exact h
  · exact k x hx
/-- A call that is handed one block of closed values, and hands back a closed value. -/
theorem CallW.one {g : FuncId} {args args' : List PVal} {σ : St} {K KP : PVal → St → Prop} {r : Ref} {b b2 : Blk} {p : PVal} (spec : FSem C g args' [b] fun q st => q = .ret p ∧ st = [b2]) (hb : blkAt σ.o σ.l r = some b) (hcb : ClosedB b) (hcb2 : ClosedB b2) (hp : Closed p)
    (ha : args = renL (fCall [r] σ.l.length) args') (h : K p (setBlk σ r b2)) : CallW C g args σ K KP :=
  CallW.of spec [r] (by simp) ha rfl (fun j r' k hr hk => by
    cases j with
    | zero => simp at hr hk; subst hr hk; rw [hcb]; exact hb
    | succ j => simp at hr) fun q st' ⟨h1, h2⟩ => by
    subst h1 h2
    have e : setAll σ [r] [b2] = setBlk σ r b2 := by simp [setAll]
    simp only [List.map_cons, List.map_nil, hcb2 _, hp _, e]
    exact h
theorem fCall_1 (r : Ref) (m : Nat) : fCall [r] m (.o 0) = r := rfl
/-- Whole numbers that fit. -/
theorem w64 {x : Int} (h0 : -9223372036854775808 ≤ x) (h1 : x ≤ 9223372036854775807) : IntKind.wrap .i64 x = x := by rw [IntKind.wrap_i64]; omega
end Go.V
