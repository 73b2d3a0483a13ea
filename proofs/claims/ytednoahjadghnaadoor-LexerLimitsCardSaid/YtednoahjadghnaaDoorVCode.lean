/-
  The walk over code: operations in a row, control, calls.
-/
import Derived.Test.YtednoahjadghnaaDoorVApp
import Derived.Laws.BytesString
import Derived.Laws.Cells
namespace Go.V
open Go

/-! ### The ends of a call, what a call is to its caller, what a function does -/
inductive PRes where
  | ret (p : PVal)
  | pan (p : PVal)

def EndRel (V : View) : PRes → Ending → Prop
  | .ret p, .returned v => Rep V p v
  | .pan p, .panicked chain => ∃ v, chain = [{ v, recovered := false }] ∧ Rep V p v
  | _, _ => False

def okF (P : Program) (f : FuncId) : Bool :=
  match P.funcs[f]? with
  | some fn => fn.body.isSome && !(fn.name == "runtime.NumGoroutine")
  | none => false

/-- What the call of function g with these arguments means to the caller. -/
def CallW (C : Ctx) (g : FuncId) (args : List PVal) (σ : St) (K KP : PVal → St → Prop) : Prop :=
  okF C.P g = true ∧ ∀ V vs, MemRel C V (blkAt σ.o σ.l) → ListRep V args vs → Calls C.P g vs V.w fun e w' => ∃ V' σ' r, V'.w = w' ∧ Went C V σ V' σ' ∧ EndRel V' r e ∧
    (match r with | .ret p => K p σ' | .pan p => KP p σ')

/-- THE MEANING OF A FUNCTION: called with these arguments, where the blocks 'st' are handed to it (as '.o 0', '.o 1', ..), it ends with R. -/
def FSem (C : Ctx) (f : FuncId) (args : List PVal) (st : List Blk) (R : PRes → List Blk → Prop) : Prop :=
  okF C.P f = true ∧ ∀ V vs, MemRel C V (blkAt st []) → ListRep V args vs → Calls C.P f vs V.w fun e w' => ∃ V' st' r, V'.w = w' ∧ V.To V' ∧ Later V V' ∧ MemRel C V' (blkAt st' []) ∧ EndRel V' r e ∧ R r st'

/-! ### Builtins and conversions -/
def wBuiltin (C : Ctx) (b : Builtin) (ts : Array TypeId) (args : List PVal) (σ : St) (K KP : PVal → St → Prop) : Prop :=
  match b with
  | .len => match args, ts.toList with
    | [p], [t] => (match p with | .ref r _ _ => (match blkAt σ.o σ.l r with | some (.row _ _ _) => True | _ => False) | _ => True) ∧ wLen C t p fun q => K q σ
    | _, _ => False
  | .min => match args with
    | [.int k a, .int _ b] => K (.int k (mn a b)) σ
    | _ => False
  | .max => match args with
    | [.int k a, .int _ b] => K (.int k (mx a b)) σ
    | _ => False
  | .panic => match args with
    | [.iface t v] => KP (.iface t v) σ
    | _ => False
  | .append => match args, ts.toList with
    | [p, q], [t, tx] => wAppend C t tx p q σ K
    | _, _ => False
  | _ => False

/-- A slice type of bytes. -/
def byq (P : Program) (t : TypeId) : Bool :=
  match P.underlying t with
  | some (.slice e) => match P.underlying e with
    | some (.int .u8) => true
    | _ => false
  | _ => false
theorem byq_spec {P : Program} {t : TypeId} (h : byq P t = true) : ∃ e, P.underlying t = some (.slice e) ∧ P.underlying e = some (.int .u8) := by
  unfold byq at h
  split at h
  · rename_i e he
    split at h
    · exact ⟨e, he, by assumption⟩
    · cases h
  · cases h
/-- The bytes of a row of bytes. -/
def bytesOf : List PVal → Option (List UInt8)
  | [] => some []
  | .int .u8 n :: r => (bytesOf r).map (UInt8.ofNat n.toNat :: ·)
  | _ :: _ => none
theorem bytesOf_spec : ∀ {xs : List PVal} {bs : List UInt8}, bytesOf xs = some bs → ∃ ns : List Int, xs = ns.map (.int .u8) ∧ bs = ns.map fun n => UInt8.ofNat n.toNat
  | [], bs, h => by cases h; exact ⟨[], rfl, rfl⟩
  | x :: r, bs, h => by
    unfold bytesOf at h
    split at h
    · rename_i h0; cases h0
    · rename_i n r' h0
      cases h0
      simp only [Option.map_eq_some_iff] at h
      obtain ⟨b, hb, rfl⟩ := h
      obtain ⟨ns, rfl, rfl⟩ := bytesOf_spec hb
      exact ⟨n :: ns, rfl, rfl⟩
    · cases h
theorem fold_push : ∀ (ns : List Int) (s : ByteArray), ns.foldl (fun r n => r.push (UInt8.ofNat n.toNat)) s = ⟨⟨s.data.toList ++ ns.map fun n => UInt8.ofNat n.toNat⟩⟩
  | [], s => by simp
  | n :: ns, s => by
    rw [List.foldl_cons, fold_push ns]
    simp [ByteArray.push]

def wConv (C : Ctx) (s d : TypeId) (p : PVal) (σ : St) (K : PVal → St → Prop) : Prop :=
  match p with
  | .int _ n => match inq C.P s, inq C.P d with
    | some _, some k => K (.int k (k.wrap n)) σ
    | _, _ => False
  | .str x => C.P.underlying s = some .string ∧ C.P.underlying d = some .string ∧ K (.str x) σ
  | .slc xs => byq C.P s = true ∧ C.P.underlying d = some .string ∧ match bytesOf xs with
    | some bs => K (.str bs) σ
    | none => False
  | _ => False

def wCall (C : Ctx) (c : Call) (σ : St) (K KP : PVal → St → Prop) : Prop :=
  match c.callee with
  | .builtin b => wBuiltin C b c.argTypes (c.args.toList.map (val σ.e)) σ K KP
  | .value f => match val σ.e f with
    | .fn (.func g) first caps => CallW C g (first ++ (c.args.toList.map (val σ.e) ++ caps)) σ K KP
    | _ => False
  | .invoke _ _ => False

def wOp (C : Ctx) (op : Op) (σ : St) (K KP : PVal → St → Prop) : Prop :=
  match op with
  | .move x => K (val σ.e x) σ
  | .assign x => K (val σ.e x) σ
  | .pick c a b => match val σ.e c with
    | .bool t => (t = true → K (val σ.e a) σ) ∧ (t = false → K (val σ.e b) σ)
    | _ => False
  | .alloc e => wAlloc C e σ K
  | .box e x => wBox e (val σ.e x) σ K
  | .build t ps => wBuild C t ps σ.e fun q => K q σ
  | .buildSlice t n ps => wBuildSlice C t n ps σ K
  | .makeSlice t x y => wMakeSlice C t (val σ.e x) (val σ.e y) σ K
  | .load t x => wLoad C t (val σ.e x) σ fun q => K q σ
  | .store t a v => wStore C t (val σ.e a) (val σ.e v) σ fun σ' => K .any σ'
  | .nilCheck x => wNilCheck (val σ.e x) σ fun q => K q σ
  | .binOp op t x y _ => wBin C op t x y (val σ.e x) (val σ.e y) σ fun q => K q σ
  | .unOp op _ x => wUn op (val σ.e x) fun q => K q σ
  | .convert s d x => wConv C s d (val σ.e x) σ K
  | .makeInterface t x => wMakeIface C t (val σ.e x) fun q => K q σ
  | .makeFunc f first caps => K (.fn f (first.toList.map (val σ.e)) (caps.toList.map (val σ.e))) σ
  | .slice t x lo hi mx => mx = none ∧ wSlice C t (val σ.e x) (lo.map (val σ.e)) (hi.map (val σ.e)) σ fun q => K q σ
  | .fieldAddr s x f => wFieldAddr C s (val σ.e x) f σ fun q => K q σ
  | .field t x f => wField C t (val σ.e x) f fun q => K q σ
  | .indexAddr t x i => wIndexAddr C t (val σ.e x) (val σ.e i) σ fun q => K q σ
  | .index t x i => wIndex C t (val σ.e x) (val σ.e i) fun q => K q σ
  | .extract x i => wExtract (val σ.e x) i fun q => K q σ
  | .call c => wCall C c σ K KP
  | .panic x => match val σ.e x with
    | .iface t v => KP (.iface t v) σ
    | _ => False
  | _ => False

/-! #### .. are the model's -/
/-- 'next' is met behind the operation, 'Q' at a panic. -/
structure Meets (C : Ctx) (V : View) (σ : St) (a : Act) (o : Oper) (K KP : PVal → St → Prop) (next : Act → World → Prop) (Q : Exit → Act → World → Prop) : Prop where
  next : ∀ V' σ' p v, Went C V σ V' σ' → Rep V' p v → K p σ' → next (a.put o.dst v) V'.w
  pan : ∀ V' σ' p v, Went C V σ V' σ' → Rep V' p v → KP p σ' → Q (.panic [{ v, recovered := false }]) a V'.w

variable {C : Ctx} {n : Nat} {V : View} {σ : St} {a : Act} {o : Oper} {K KP : PVal → St → Prop} {next : Act → World → Prop} {Q : Exit → Act → World → Prop}

theorem wp_value {u : Value} {w' : World} (h : (execOp a.eval o).run C.P V.w = .ok (.value u) w') (hn : next (a.put o.dst u) w') : o.wp C.P a V.w next Q := by
  unfold Oper.wp; rw [h]; exact hn
theorem wp_skip' {w' : World} (h : (execOp a.eval o).run C.P V.w = .ok .skip w') (hn : next (a.put o.dst undef) w') : o.wp C.P a V.w next Q := by
  unfold Oper.wp; rw [h]; exact hn

theorem callFunc_run {P : Program} {g : FuncId} (h : okF P g = true) (args : Array Value) (w : World) : (callFunc g args).run P w = .ok (.enter g args) w := by
  unfold okF at h
  split at h
  · rename_i fn hf
    simp only [Bool.and_eq_true, Bool.not_eq_true'] at h
    obtain ⟨h1, h2⟩ := h
    have h2' : fn.name ≠ "runtime.NumGoroutine" := fun e => by rw [e] at h2; simp at h2
    have h3 : fn.body ≠ none := fun e => by rw [e] at h1; cases h1
    unfold callFunc
    simp [hf, h2', h3]
  · cases h

theorem listRep_append {ps qs : List PVal} {us vs : Array Value} (h : ListRep V ps us) (k : ListRep V qs vs) : ListRep V (ps ++ qs) (us ++ vs) := by
  refine ⟨by simp [h.1, k.1], fun j p hp => ?_⟩
  rw [Array.getD_eq_getD_getElem?]
  by_cases hj : j < ps.length
  · rw [List.getElem?_append_left hj] at hp
    rw [Array.getElem?_append_left (by rw [h.1]; exact hj), ← Array.getD_eq_getD_getElem?]
    exact h.2 j p hp
  · rw [List.getElem?_append_right (by omega)] at hp
    rw [Array.getElem?_append_right (by rw [h.1]; omega), ← Array.getD_eq_getD_getElem?, h.1]
    exact k.2 _ p hp

theorem optRep (hR : Rel C n V σ a) (x : Option Operand) : (∀ p, x.map (val σ.e) = some p → ∃ v, x.map a.eval = some v ∧ Rep V p v) ∧ (x.map (val σ.e) = none → x.map a.eval = none) := by
  cases x with
  | none => exact ⟨fun p h => (by cases h), fun _ => rfl⟩
  | some x => exact ⟨fun p h => (by cases h; exact ⟨_, rfl, val_rep hR x⟩), fun h => (by cases h)⟩

theorem wOp_sound (hR : Rel C n V σ a) (h : wOp C o.op σ K KP) (hm : Meets C V σ a o K KP next Q) : o.wp C.P a V.w next Q := by
  have hW := Went.refl (C := C) (V := V) (σ := σ) hR.mem
  -- a value in the world that stands
  have quiet : ∀ {s : Sem Value} {K' : PVal → Prop}, (∀ q, K' q → K q σ) → execOp a.eval o = (do pure (.value (← s))) → (∃ u q, s.run C.P V.w = .ok u V.w ∧ Rep V q u ∧ K' q) → o.wp C.P a V.w next Q := fun {s K'} hK he ⟨u, q, hr, hq, hk⟩ =>
    wp_value (by rw [he, Sem.run_bind, hr]; rfl) (hm.next V σ q u hW hq (hK q hk))
  -- a value in a new world
  have loud : ∀ {s : Sem Value}, execOp a.eval o = (do pure (.value (← s))) → (∃ V' σ' q u, s.run C.P V.w = .ok u V'.w ∧ Went C V σ V' σ' ∧ Rep V' q u ∧ K q σ') → o.wp C.P a V.w next Q := fun {s} he ⟨V', σ', q, u, hr, hw, hq, hk⟩ =>
    wp_value (by rw [he, Sem.run_bind, hr]; rfl) (hm.next V' σ' q u hw hq hk)
  unfold wOp at h
  split at h
  · rename_i x hop
    exact wp_value (by unfold execOp; rw [hop]; rfl) (hm.next V σ _ _ hW (val_rep hR x) h)
  · rename_i x hop
    exact wp_value (by unfold execOp; rw [hop]; rfl) (hm.next V σ _ _ hW (val_rep hR x) h)
  · rename_i c x y hop
    split at h
    · rename_i t hc
      have hcr := val_rep hR c
      rw [hc] at hcr
      generalize hce : a.eval c = cv at hcr
      cases hcr
      cases t
      · exact wp_value (u := a.eval y) (by unfold execOp; rw [hop]; simp [hce, asBool]) (hm.next V σ _ _ hW (val_rep hR y) (h.2 rfl))
      · exact wp_value (u := a.eval x) (by unfold execOp; rw [hop]; simp [hce, asBool]) (hm.next V σ _ _ hW (val_rep hR x) (h.1 rfl))
    · exact h.elim
  · rename_i e hop
    exact loud (by unfold execOp; rw [hop]) (wAlloc_sound hR.mem h)
  · rename_i e x hop
    exact loud (by unfold execOp; rw [hop]) (wBox_sound hR.mem (val_rep hR x) h)
  · rename_i t ps hop
    exact quiet (fun _ h => h) (by unfold execOp; rw [hop]) (wBuild_sound hR h)
  · rename_i t m ps hop
    exact loud (by unfold execOp; rw [hop]) (wBuildSlice_sound hR h)
  · rename_i t x y hop
    exact loud (by unfold execOp; rw [hop]) (wMakeSlice_sound hR.mem (val_rep hR x) (val_rep hR y) h)
  · rename_i t x hop
    exact quiet (fun _ h => h) (by unfold execOp; rw [hop]) (wLoad_sound hR.mem (val_rep hR x) h)
  · rename_i t x y hop
    obtain ⟨V', σ', hr, hw, hk⟩ := wStore_sound hR.mem (val_rep hR x) (val_rep hR y) h
    refine wp_skip' ?_ (hm.next V' σ' .any undef hw .any hk)
    unfold execOp
    rw [hop]
    simp only [Sem.run_bind, hr]
    rfl
  · rename_i x hop
    obtain ⟨q, hq, hk, hv⟩ := wNilCheck_sound hR.mem (val_rep hR x) h
    refine wp_value (u := a.eval x) ?_ (hm.next V σ q _ hW hq hk)
    unfold execOp
    rw [hop]
    dsimp only
    generalize a.eval x = v at hv
    unfold ckV at hv
    split at hv
    · rfl
    · rfl
    · rfl
    · exact hv.elim
  · rename_i op t x y ty hop
    exact quiet (fun _ h => h) (by unfold execOp; rw [hop]) (wBin_sound hR.mem (val_rep hR x) (val_rep hR y) h)
  · rename_i op t x hop
    exact quiet (fun _ h => h) (by unfold execOp; rw [hop]) (wUn_sound (val_rep hR x) h C.P V.w)
  · rename_i s d x hop
    unfold wConv at h
    have hx := val_rep hR x
    split at h
    · rename_i k m hv
      rw [hv] at hx
      generalize hxe : a.eval x = xv at hx
      cases hx
      split at h
      · rename_i k1 k2 hs hd
        refine wp_value (u := .int k2 (k2.wrap m)) ?_ (hm.next V σ _ _ hW .int h)
        unfold execOp
        rw [hop]
        simp [hxe, convert, run_underlying (inq_spec hs), run_underlying (inq_spec hd), Conv.intToInt]
      · exact h.elim
    · rename_i z hv
      rw [hv] at hx
      generalize hxe : a.eval x = xv at hx
      cases hx
      obtain ⟨hs, hd, h⟩ := h
      refine wp_value (u := .string ⟨⟨z⟩⟩) ?_ (hm.next V σ _ _ hW .str h)
      unfold execOp
      rw [hop]
      simp [hxe, convert, run_underlying hs, run_underlying hd]
    · rename_i xs hv
      rw [hv] at hx
      generalize hxe : a.eval x = xv at hx
      obtain ⟨hs, hd, h⟩ := h
      obtain ⟨e, hse, he⟩ := byq_spec hs
      split at h
      · rename_i bs hbs
        obtain ⟨ns, rfl, rfl⟩ := bytesOf_spec hbs
        have hrun : (convert s d xv).run C.P V.w = .ok (.string ⟨⟨ns.map fun n => UInt8.ofNat n.toNat⟩⟩) V.w := by
          have hload : ∀ (b off : Nat) (f : Nat → Value), (∀ n, n < ns.length → V.w.cell? ⟨b, off + n, none⟩ = some (f n)) → (∀ n, n < ns.length → f n = .int .u8 (ns.getD n 0)) →
              (loadCells ⟨b, off, none⟩ ns.length).run C.P V.w = .ok (ns.map (Value.int .u8)).toArray V.w := fun b off f h1 h2 => by
            have := run_loadCells_list (P := C.P) (w := V.w) ⟨b, off, none⟩ (ns.map (Value.int .u8)) (fun j v hj => by
              simp only [List.getElem?_map, Option.map_eq_some_iff] at hj
              obtain ⟨z, hz, rfl⟩ := hj
              have hlt := (List.getElem?_eq_some_iff.1 hz).1
              rw [Addr.add_mid, h1 j hlt, h2 j hlt]
              simp [List.getD_eq_getElem?_getD, hz])
            rw [List.length_map] at this
            exact this
          generalize hxs : ns.map (PVal.int .u8) = ps at hx
          cases hx with
          | slcEmpty =>
            rename_i a0 cap
            obtain rfl : ns = [] := by cases ns <;> simp_all
            rw [run_convert_bytes_string V.w s d e _ _ _ hse he hd]
            cases a0 with
            | none => rfl
            | some a0 => rfl
          | slc size f hown hb hcap hc hsz hr =>
            rename_i b off cap
            subst hxs
            rw [run_convert_bytes_string V.w s d e _ _ _ hse he hd]
            rcases Nat.eq_zero_or_pos ns.length with h0 | h0
            · obtain rfl : ns = [] := List.length_eq_zero_iff.1 h0
              rfl
            have hs1 : size = 1 := by
              have := hsz 0 (.int .u8 ns[0]) (by simp)
              exact this.symm
            subst hs1
            simp only [List.length_map, Nat.mul_one] at hc ⊢
            rw [run_bytesToString V.w ⟨b, off, none⟩ ns.length cap ns (hload b off f (fun n hn => (hc n hn).1) fun n hn => by
              have := hr n (.int .u8 ns[n]) 0 (.int .u8 ns[n]) (by simp [hn]) rfl
              rw [Nat.mul_one, Nat.add_zero] at this
              generalize hfn : f n = y at this
              cases this
              simp [List.getD_eq_getElem?_getD, hn])]
            rw [fold_push]
            rfl
        refine wp_value (u := .string ⟨⟨ns.map fun n => UInt8.ofNat n.toNat⟩⟩) ?_ (hm.next V σ _ _ hW .str h)
        unfold execOp
        rw [hop]
        simp only [hxe, Sem.run_bind, hrun]
        rfl
      · exact h.elim
    · exact h.elim
  · rename_i t x hop
    exact quiet (fun _ h => h) (by unfold execOp; rw [hop]) (wMakeIface_sound (val_rep hR x) h)
  · rename_i f first caps hop
    refine wp_value (u := .func f (first.map a.eval) (caps.map a.eval)) ?_ (hm.next V σ _ _ hW (.fn (vals_rep hR first).1 (vals_rep hR caps).1 (vals_rep hR first).2 (vals_rep hR caps).2) h)
    unfold execOp
    rw [hop]
    rfl
  · rename_i t x lo hi mx hop
    obtain ⟨rfl, h⟩ := h
    exact quiet (fun _ h => h) (by unfold execOp; rw [hop]; rfl) (wSlice_sound hR.mem (val_rep hR x) (optRep hR lo).1 (optRep hR lo).2 (optRep hR hi).1 (optRep hR hi).2 h)
  · rename_i s x f hop
    exact quiet (fun _ h => h) (by unfold execOp; rw [hop]) (wFieldAddr_sound hR.mem (val_rep hR x) h)
  · rename_i t x f hop
    exact quiet (fun _ h => h) (by unfold execOp; rw [hop]) (wField_sound (val_rep hR x) h)
  · rename_i t x i hop
    exact quiet (fun _ h => h) (by unfold execOp; rw [hop]) (wIndexAddr_sound hR.mem (val_rep hR x) (val_rep hR i) h)
  · rename_i t x i hop
    exact quiet (fun _ h => h) (by unfold execOp; rw [hop]) (wIndex_sound (val_rep hR x) (val_rep hR i) h)
  · rename_i x i hop
    exact quiet (fun _ h => h) (by unfold execOp; rw [hop]) (wExtract_sound (val_rep hR x) h C.P V.w)
  · rename_i c hop
    unfold wCall at h
    split at h
    · rename_i b hc
      have hres : ∀ r, (builtin b c.argTypes o.type (c.args.map fun | .const _ => true | _ => false) (c.args.map a.eval)).run C.P V.w = r → (execOp a.eval o).run C.P V.w = r := fun r hr => by
        unfold execOp
        rw [hop]
        simp only [resolve, hc, Sem.run_bind, Sem.run_pure, Result.andThen_ok]
        exact hr
      have hargs := vals_rep hR c.args
      unfold wBuiltin at h
      split at h
      · split at h
        · rename_i p t hp ht
          obtain ⟨hd, h⟩ := h
          have ht' : c.argTypes = #[t] := Array.toList_inj.1 (by simpa using ht)
          obtain ⟨v, hv, hvr⟩ : ∃ v, c.args.map a.eval = #[v] ∧ Rep V p v := by
            rw [hp] at hargs
            obtain ⟨h1, h2⟩ := hargs
            have e0 := h2 0 p rfl
            generalize c.args.map a.eval = z at *
            obtain ⟨z⟩ := z
            match z, h1 with
            | [q], _ => exact ⟨q, rfl, by simpa [Array.getD] using e0⟩
          obtain ⟨u, q, hr, hq, hk⟩ := wLen_sound hvr (fun r off m e hdd => by
            subst e
            dsimp only at hd
            split at hd
            · rename_i hB; exact rowAlive hR.mem hB (by simp) hdd
            · exact hd) h o.type
          refine wp_value (hres _ ?_) (hm.next V σ q u hW hq hk)
          unfold builtin
          rw [ht', hv]
          simp only [Sem.run_bind, hr]
          rfl
        · exact h.elim
      · split at h
        · rename_i k x k' y hp
          obtain ⟨u, v, hv⟩ : ∃ u v, c.args.map a.eval = #[.int k x, .int k' y] ∧ u = v := by
            rw [hp] at hargs
            obtain ⟨h1, h2⟩ := hargs
            have e0 := h2 0 _ rfl
            have e1 := h2 1 _ rfl
            refine ⟨(), (), ?_, rfl⟩
            generalize c.args.map a.eval = z at *
            obtain ⟨z⟩ := z
            match z, h1 with
            | [p, q], _ =>
              simp [Array.getD] at e0 e1
              cases e0; cases e1; rfl
          refine wp_value (u := .int k (mn x y)) (hres _ ?_) (hm.next V σ _ _ hW .int h)
          unfold builtin
          rw [hv.1]
          simp [Builtin.min_, Builtin.min2, mn]
        · exact h.elim
      · split at h
        · rename_i k x k' y hp
          obtain ⟨u, v, hv⟩ : ∃ u v, c.args.map a.eval = #[.int k x, .int k' y] ∧ u = v := by
            rw [hp] at hargs
            obtain ⟨h1, h2⟩ := hargs
            have e0 := h2 0 _ rfl
            have e1 := h2 1 _ rfl
            refine ⟨(), (), ?_, rfl⟩
            generalize c.args.map a.eval = z at *
            obtain ⟨z⟩ := z
            match z, h1 with
            | [p, q], _ =>
              simp [Array.getD] at e0 e1
              cases e0; cases e1; rfl
          refine wp_value (u := .int k (mx x y)) (hres _ ?_) (hm.next V σ _ _ hW .int h)
          unfold builtin
          rw [hv.1]
          simp [Builtin.max_, Builtin.max2, mx]
        · exact h.elim
      · split at h
        · rename_i t p hp
          obtain ⟨v, hv, hvr⟩ : ∃ v, c.args.map a.eval = #[.iface t v] ∧ Rep V p v := by
            rw [hp] at hargs
            obtain ⟨h1, h2⟩ := hargs
            have e0 := h2 0 _ rfl
            generalize c.args.map a.eval = z at *
            obtain ⟨z⟩ := z
            match z, h1 with
            | [q], _ =>
              simp [Array.getD] at e0
              cases e0 with
              | iface h => exact ⟨_, rfl, h⟩
          have : (execOp a.eval o).run C.P V.w = .halt (.panic (.iface t v)) V.w := hres _ (by
            unfold builtin
            rw [hv]
            simp [Instr.panic])
          unfold Oper.wp
          rw [this]
          exact hm.pan V σ _ _ hW (.iface hvr) h
        · exact h.elim
      · split at h
        · rename_i p q t tx hp ht
          have ht' : c.argTypes = #[t, tx] := Array.toList_inj.1 (by simpa using ht)
          obtain ⟨v, x, hv, hvr, hxr⟩ : ∃ v x, c.args.map a.eval = #[v, x] ∧ Rep V p v ∧ Rep V q x := by
            rw [hp] at hargs
            obtain ⟨h1, h2⟩ := hargs
            have e0 := h2 0 p rfl
            have e1 := h2 1 q rfl
            generalize c.args.map a.eval = z at *
            obtain ⟨z⟩ := z
            match z, h1 with
            | [y, y'], _ => exact ⟨y, y', rfl, by simpa [Array.getD] using e0, by simpa [Array.getD] using e1⟩
          obtain ⟨V', σ', r, u, hr, hw, hru, hk⟩ := wAppend_sound hR.mem hvr hxr h o.type
          refine wp_value (hres _ ?_) (hm.next V' σ' r u hw hru hk)
          unfold builtin
          rw [ht', hv]
          simp only [Sem.run_bind, hr]
          rfl
        · exact h.elim
      · exact h.elim
    · rename_i f hc
      split at h
      · rename_i g first caps hf
        have hfr := val_rep hR f
        rw [hf] at hfr
        generalize hfe : a.eval f = fv at hfr
        cases hfr with
        | fn hl hl' hh hh' =>
          rename_i fs cs
          obtain ⟨hok, hcall⟩ := h
          have hargs : ListRep V (first ++ (c.args.toList.map (val σ.e) ++ caps)) (fs ++ (c.args.map a.eval) ++ cs) := by
            rw [Array.append_assoc]
            exact listRep_append ⟨hl, hh⟩ (listRep_append (vals_rep hR c.args) ⟨hl', hh'⟩)
          have hex : (execOp a.eval o).run C.P V.w = .ok (.enter g (fs ++ (c.args.map a.eval) ++ cs)) V.w := by
            unfold execOp
            rw [hop]
            simp only [resolve, hc, hfe, Deferred.ofValue, Sem.run_bind, Sem.run_pure, Result.andThen_ok, invoke]
            exact callFunc_run hok _ _
          unfold Oper.wp
          rw [hex, Oper.upon_enter]
          refine (hcall V _ hR.mem hargs).mono fun e w' ⟨V', σ', r, hw, hwent, her, hk⟩ => ?_
          subst hw
          cases r with
          | ret p =>
            cases e with
            | returned v => exact hm.next V' σ' p v hwent her hk
            | panicked => exact her.elim
            | outgrown => exact her.elim
          | pan p =>
            cases e with
            | returned v => exact her.elim
            | panicked chain =>
              obtain ⟨v, rfl, hv⟩ := her
              exact hm.pan V' σ' p v hwent hv hk
            | outgrown => exact her.elim
      · exact h.elim
    · exact h.elim
  · rename_i x hop
    split at h
    · rename_i t p hp
      have hx := val_rep hR x
      rw [hp] at hx
      generalize hxe : a.eval x = xv at hx
      cases hx with
      | iface hv =>
        rename_i v
        have : (execOp a.eval o).run C.P V.w = .halt (.panic (.iface t v)) V.w := by
          unfold execOp
          rw [hop]
          simp [hxe, Instr.panic]
        unfold Oper.wp
        rw [this]
        exact hm.pan V σ _ _ hW (.iface hv) h
    · exact h.elim
  · exact h.elim
end Go.V
