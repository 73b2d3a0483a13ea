/-
 Texts joined: VBase VOps VPure VArith VMore VApp VCode VWalk VCall VCallee.
-/
import Derived.WalkKit
import Derived.Deep.MidRow
import Derived.Deep.QuietTactic
import Derived.BigQuiet
import Derived.Great.BuildSlice
import Derived.Laws.MakeOwn
import Derived.Laws.StructEq
import Derived.Lib.IndexBytes
import Derived.MapKept
import Derived.Laws.Concat
import Derived.Deep.AppendSrc
import Derived.Deep.Upon
import Derived.Laws.BytesString
import Derived.Laws.Cells
set_option linter.unusedVariables false
set_option linter.unusedSimpArgs false
set_option linter.loopingSimpArgs false
namespace Go.V
open Go

inductive Ref where
 | o (n:Nat)
 | l (n:Nat)
 deriving DecidableEq

inductive PVal where
 | any
 | bool (b:Bool)
 | int (k:IntKind) (n:Int)
 | str (s:List UInt8)
 | nilp
 | ptr (r:Ref) (i off:Nat)
 | gptr (g off:Nat)
 | eptr (x:PVal) (off:Nat)
 | nils
 | slc (xs:List PVal)
 | ref (r:Ref) (off len:Nat)
 | agg (cs:List PVal)
 | tuple (vs:List PVal)
 | iface (t:TypeId) (v:PVal)
 | niliface
 | fn (f:Fn) (first caps:List PVal)
 | nilfn
 | nilmap
 | fmap (ks vs:List PVal)
 | mref (r:Ref)
 deriving Inhabited

/-- The cells of a value. -/
def PVal.cells:PVal→List PVal
 | .agg cs=>cs
 | p=>[p]

/-- A value that may be stored into memory. -/
def PVal.solid:PVal→Bool
 | .any | .tuple _=>false
 | _=>true

inductive Loc where
 | out
 | dead
 | none
 | at (b base size:Nat)

structure View where
 w:World
 loc:Ref→Loc
 own:Nat→Prop

inductive Rep (V:View):PVal→Value→Prop
 | any {v}:Rep V .any v
 | bool {b}:Rep V (.bool b) (.bool b)
 | int {k n}:Rep V (.int k n) (.int k n)
 | str {s:List UInt8}:Rep V (.str s) (.string ⟨⟨s⟩⟩)
 | nilp:Rep V .nilp (.pointer none)
 | ptr {r i off b base size} (h:V.loc r=.at b base size):Rep V (.ptr r i off) (.pointer (some ⟨b,base + i * size + off,none⟩))
 | ptrDead {r i off v} (h:V.loc r=.dead) (h1:v.oneCell'=true):Rep V (.ptr r i off) v
 | gptr {g off}:Rep V (.gptr g off) (.pointer (some ⟨g,off,none⟩))
 | eptr {x off b o} (f:Nat→Value) (hown:¬ V.own b) (hb:b < V.w.heap.size) (hc:∀ n,n < x.cells.length→V.w.cell? ⟨b,o + n,none⟩=some (f n)∧(f n).oneCell'=true)
   (hx:∀ (j:Nat) (c:PVal),x.cells[j]? = some c→Rep V c (f j)):Rep V (.eptr x off) (.pointer (some ⟨b,o + off,none⟩))
 | nils:Rep V .nils (.slice none 0 0)
 | slcEmpty {a cap}:Rep V (.slc []) (.slice a 0 cap)
 | slc {xs b off cap} (size:Nat) (f:Nat→Value) (hown:¬ V.own b) (hb:b < V.w.heap.size) (hcap:xs.length≤cap)
   (hc:∀ n,n < xs.length * size→V.w.cell? ⟨b,off + n,none⟩=some (f n)∧(f n).oneCell'=true)
   (hs:∀ (i:Nat) (x:PVal),xs[i]? = some x→x.cells.length=size)
   (hx:∀ (i:Nat) (x:PVal) (j:Nat) (c:PVal),xs[i]? = some x→x.cells[j]? = some c→Rep V c (f (i * size + j))):Rep V (.slc xs) (.slice (some ⟨b,off,none⟩) xs.length cap)
 | ref {r off len cap b base size} (h:V.loc r=.at b base size) (hcap:len≤cap)
   (hsz:∃ ty n,V.w.shape? b=some (ty,n)∧base + (off + cap) * size≤n):Rep V (.ref r off len) (.slice (some ⟨b,base + off * size,none⟩) len cap)
 | refEmpty {r off a} (h:V.loc r=.none∨∃ b base size,V.loc r=.at b base size):Rep V (.ref r off 0) (.slice a 0 0)
 | refDead {r off len v} (h:V.loc r=.dead) (h1:v.oneCell'=true):Rep V (.ref r off len) v
 | agg {cs vs} (hl:vs.size=cs.length) (h1:∀ j,j < cs.length→(vs.getD j undef).oneCell'=true) (h:∀ (j:Nat) (c:PVal),cs[j]? = some c→Rep V c (vs.getD j undef)):Rep V (.agg cs) (.agg vs)
 | tuple {ps vs} (hl:vs.size=ps.length) (h:∀ (j:Nat) (c:PVal),ps[j]? = some c→Rep V c (vs.getD j undef)):Rep V (.tuple ps) (.tuple vs)
 | iface {t p v} (h:Rep V p v):Rep V (.iface t p) (.iface t v)
 | niliface:Rep V .niliface .nilIface
 | fn {f first caps fs cs} (hl:fs.size=first.length) (hl':cs.size=caps.length) (h:∀ (j:Nat) (c:PVal),first[j]? = some c→Rep V c (fs.getD j undef))
   (h':∀ (j:Nat) (c:PVal),caps[j]? = some c→Rep V c (cs.getD j undef)):Rep V (.fn f first caps) (.func f fs cs)
 | nilfn:Rep V .nilfn .nilFunc
 | nilmap:Rep V .nilmap (.map none)
 | fmap {ks vs b es clock} (π:Nat→Nat) (hown:¬ V.own b) (hb:V.w.heap[b]? = some (.map es clock)) (hl:ks.length=vs.length) (hπ:∀ i,i < es.size→π i < ks.length) (hs:∀ j,j < ks.length→∃ i,i < es.size∧π i=j)
   (h1:∀ (i:Nat) (c:PVal),i < es.size→ks[π i]? = some c→Rep V c (es.getD i default).key) (h2:∀ (i:Nat) (c:PVal),i < es.size→vs[π i]? = some c→Rep V c (es.getD i default).val):Rep V (.fmap ks vs) (.map (some b))
 | mref {r b base size} (h:V.loc r=.at b base size):Rep V (.mref r) (.map (some b))
 | mrefDead {r v} (h:V.loc r=.dead) (h1:v.oneCell'=true):Rep V (.mref r) v

/-- What is read of unowned memory in V reads the same in V', and each reference lies where it lay, or is dead. -/
structure View.To (V V':View):Prop where
 size:V.w.heap.size≤V'.w.heap.size
 heap:∀ b,b < V.w.heap.size→¬ V.own b→V'.w.heap[b]? = V.w.heap[b]?
 own:∀ b,b < V.w.heap.size→V'.own b→V.own b
 loc:∀ r,V.loc r≠.out→V'.loc r=V.loc r∨V'.loc r=.dead
 shape:∀ r b base size,V.loc r=.at b base size→V'.loc r=V.loc r→∀ ty n,V.w.shape? b=some (ty,n)→V'.w.shape? b=some (ty,n)

theorem View.To.at {V V':View} (H:V.To V') {r:Ref} {x:Loc} (h:V.loc r=x) (hx:x≠.out):V'.loc r=x∨V'.loc r=.dead:=by
 subst h;exact H.loc r hx

theorem View.To.refl (V:View):V.To V:=⟨Nat.le_refl _,fun _ _ _=>rfl,fun _ _ h=>h,fun _ _=>.inl rfl,fun _ _ _ _ _ _ _ _ h=>h⟩

theorem Fx {w w':World} {b:Nat} (h:w'.heap[b]? = w.heap[b]?) (o:Nat):w'.cell? ⟨b,o,none⟩=w.cell? ⟨b,o,none⟩:=by
 simp [World.cell?,h]

theorem Rep.mono {V V':View} (H:V.To V') {p:PVal} {v:Value} (h:Rep V p v):Rep V' p v:=by
 induction h with
 | any=>exact .any
 | bool=>exact .bool
 | int=>exact .int
 | str=>exact .str
 | nilp=>exact .nilp
 | ptr h =>
   rcases H.at h (by simp) with h' | h'
   ·exact .ptr h'
   ·exact .ptrDead h' rfl
 | ptrDead h h1 =>
   rcases H.at h (by simp) with h' | h'
   ·exact .ptrDead h' h1
   ·exact .ptrDead h' h1
 | gptr=>exact .gptr
 | eptr f hown hb hc hx ih =>
   refine .eptr f (fun h=>hown (H.own _ hb h)) (Nat.lt_of_lt_of_le hb H.size) (fun n hn=>?_) ih
   rw [Fx (H.heap _ hb hown)];exact hc n hn
 | nils=>exact .nils
 | slcEmpty=>exact .slcEmpty
 | slc size f hown hb hcap hc hs hx ih =>
   refine .slc size f (fun h=>hown (H.own _ hb h)) (Nat.lt_of_lt_of_le hb H.size) hcap (fun n hn=>?_) hs ih
   rw [Fx (H.heap _ hb hown)];exact hc n hn
 | ref h hcap hsz =>
   rcases H.at h (by simp) with h' | h'
   ·obtain ⟨ty,n,h1,h2⟩:=hsz
    exact .ref h' hcap ⟨ty,n,H.shape _ _ _ _ h (h'.trans h.symm) _ _ h1,h2⟩
   ·exact .refDead h' rfl
 | refEmpty h =>
   rcases h with h | ⟨b,base,size,h⟩
   ·rcases H.at h (by simp) with h' | h'
    ·exact .refEmpty (.inl h')
    ·exact .refDead h' rfl
   ·rcases H.at h (by simp) with h' | h'
    ·exact .refEmpty (.inr ⟨b,base,size,h'⟩)
    ·exact .refDead h' rfl
 | refDead h h1 =>
   rcases H.at h (by simp) with h' | h'
   ·exact .refDead h' h1
   ·exact .refDead h' h1
 | agg hl h1 _ ih=>exact .agg hl h1 ih
 | tuple hl _ ih=>exact .tuple hl ih
 | iface _ ih=>exact .iface ih
 | niliface=>exact .niliface
 | fn hl hl' _ _ ih ih'=>exact .fn hl hl' ih ih'
 | nilfn=>exact .nilfn
 | nilmap=>exact .nilmap
 | fmap π hown hb hl hπ hs _ _ ih ih' =>
   have hlt:=(Array.getElem?_eq_some_iff.1 hb).1
   exact .fmap π (fun h=>hown (H.own _ hlt h)) (by rw [H.heap _ hlt hown];exact hb) hl hπ hs ih ih'
 | mref h =>
   rcases H.at h (by simp) with h' | h'
   ·exact .mref h'
   ·exact .mrefDead h' rfl
 | mrefDead h h1 =>
   rcases H.at h (by simp) with h' | h'
   ·exact .mrefDead h' h1
   ·exact .mrefDead h' h1

/-- The same memory, where no block has a name. -/
def View.bare (V:View):View:={ V with loc:=fun _=>.out }
theorem Rep.of_bare {V:View} (V':View) (hw:V'.w=V.w) (ho:V'.own=V.own) {p:PVal} {v:Value} (h:Rep V.bare p v):Rep V' p v:=by
 have hx:∀ r x,V.bare.loc r=x→x=.out:=fun r x h=>h.symm
 induction h with
 | any=>exact .any
 | bool=>exact .bool
 | int=>exact .int
 | str=>exact .str
 | nilp=>exact .nilp
 | ptr h=>cases hx _ _ h
 | ptrDead h=>cases hx _ _ h
 | gptr=>exact .gptr
 | eptr f a b c _ ih=>exact .eptr f (by rw [ho];exact a) (by rw [hw];exact b) (fun m hm=>by rw [hw];exact c m hm) ih
 | nils=>exact .nils
 | slcEmpty=>exact .slcEmpty
 | slc size f a b c d e _ ih=>exact .slc size f (by rw [ho];exact a) (by rw [hw];exact b) c (fun m hm=>by rw [hw];exact d m hm) e ih
 | ref h=>cases hx _ _ h
 | refEmpty h=>rcases h with h | ⟨_,_,_,h⟩ <;> cases hx _ _ h
 | refDead h=>cases hx _ _ h
 | agg a b _ ih=>exact .agg a b ih
 | tuple a _ ih=>exact .tuple a ih
 | iface _ ih=>exact .iface ih
 | niliface=>exact .niliface
 | fn a b _ _ ih ih'=>exact .fn a b ih ih'
 | nilfn=>exact .nilfn
 | nilmap=>exact .nilmap
 | fmap π a b c d e _ _ ih ih'=>exact .fmap π (by rw [ho];exact a) (by rw [hw];exact b) c d e ih ih'
 | mref h=>cases hx _ _ h
 | mrefDead h=>cases hx _ _ h
theorem View.To.bare {V V':View} (H:V.To V'):V.bare.To V'.bare:=⟨H.size,H.heap,H.own,fun _ h=>absurd rfl h,fun _ _ _ _ h=>by cases h⟩

/-! ### The store of blocks -/
inductive Blk where
 | dead
 | row (elems:List PVal) (size:Nat) (ty:TypeId)
 | mp (ks vs:List PVal)
 | iter (s:List UInt8) (pos:Nat)

def Ao (o l:List Blk):Ref→Option Blk
 | .o n=>o[n]?
 | .l n=>l[n]?

def BlkRep (V:View) (r:Ref):Blk→Prop
 | .dead=>V.loc r=.dead
 | .row elems size ty=>(V.loc r=.none∧elems=[])∨∃ b base cells fr,V.loc r=.at b base size∧V.w.heap[b]? = some (.cells cells ty fr) ∧
   (∀ n,n < cells.size→V.w.frozen? ⟨b,n,none⟩=false)∧base + elems.length * size≤cells.size∧(∀ n,n < cells.size→(cells.getD n undef).oneCell'=true) ∧
   (∀ (i:Nat) (x:PVal),elems[i]? = some x→x.cells.length=size) ∧
   ∀ (i:Nat) (x:PVal) (j:Nat) (c:PVal),elems[i]? = some x→x.cells[j]? = some c→Rep V c (cells.getD (base + i * size + j) undef)
 | .mp ks vs=>∃ b es clock,V.loc r=.at b 0 0∧V.w.heap[b]? = some (.map es clock)∧es.size=ks.length∧es.size=vs.length ∧
   (∀ (i:Nat) (c:PVal),ks[i]? = some c→Rep V c (es.getD i default).key)∧(∀ (i:Nat) (c:PVal),vs[i]? = some c→Rep V c (es.getD i default).val)
 | .iter s pos=>∃ b,V.loc r=.at b 0 0∧V.w.heap[b]? = some (.stringIter ⟨⟨s⟩⟩ pos)

/-- The program, and what its listed package-level variables hold (of block g, the cells). -/
structure Ctx where
 P:Program
 G:Nat→Option (List PVal)

structure MemRel (C:Ctx) (V:View) (B:Ref→Option Blk):Prop where
 blk:∀ r k,B r=some k→BlkRep V r k
 out:∀ r,B r=none→V.loc r=.out
 inj:∀ r r' b x y x' y',V.loc r=.at b x y→V.loc r'=.at b x' y'→r=r'
 own:∀ r b x y,V.loc r=.at b x y→V.own b
 lt:∀ b,V.own b→b < V.w.heap.size
 glob:∀ g cs,C.G g=some cs→¬ V.own g∧g < V.w.heap.size∧∀ (j:Nat) (c:PVal),cs[j]? = some c→∃ v,V.w.cell? ⟨g,j,none⟩=some v∧v.oneCell'=true∧Rep V.bare c v

/-! ### Environments -/
abbrev Env:=List (Nat × PVal)
def gt:Env→Nat→PVal
 | [],_=>.any
 | (k,v)::r,i=>bif Nat.beq k i then v else gt r i

structure PDef where
 f:FuncId
 args:List PVal
 caps:List PVal

structure St where
 e:Env
 o:List Blk
 l:List Blk
 d:List PDef:=[]

def Ca (V:View) (ps:List PVal) (vs:Array Value):Prop:=vs.size=ps.length∧∀ (j:Nat) (p:PVal),ps[j]? = some p→Rep V p (vs.getD j undef)

def O1 (V:View):List PDef→List Deferred→Prop
 | [],[]=>True
 | p::ps,d::ds=>(∃ caps args,d={ target:=.fn (.func p.f) caps,args:=args }∧Ca V p.args args∧Ca V p.caps caps)∧O1 V ps ds
 | _,_=>False

structure Rel (C:Ctx) (n:Nat) (V:View) (σ:St) (a:Act):Prop where
 mem:MemRel C V (Ao σ.o σ.l)
 env:∀ t,Rep V (gt σ.e t) (a.tmps.getD t undef)
 tmps:a.tmps.size=n
 defers:O1 V σ.d a.defers

/-- What a piece of code of one frame may have done: blocks that it does not hold stand as they stood. -/
structure Later (V V':View):Prop where
 size:V.w.heap.size≤V'.w.heap.size
 heap:∀ b,b < V.w.heap.size→(∀ r x y,V.loc r≠.at b x y)→V'.w.heap[b]? = V.w.heap[b]?
 own:∀ b,b < V.w.heap.size→V'.own b→V.own b
 kept:∀ b,b < V.w.heap.size→V.own b→(∀ r x y,V.loc r≠.at b x y)→V'.own b
 locs:∀ r b x y,b < V.w.heap.size→V'.loc r=.at b x y→∃ r' x' y',V.loc r'=.at b x' y'
 loc:∀ n,V.loc (.o n)≠.out→V'.loc (.o n)=V.loc (.o n)∨V'.loc (.o n)=.dead
 shape:∀ n b base size,V.loc (.o n)=.at b base size→V'.loc (.o n)=V.loc (.o n)→∀ ty m,V.w.shape? b=some (ty,m)→V'.w.shape? b=some (ty,m)
 os:V'.w.os=V.w.os
 tape:V'.w.tape=V.w.tape
 output:V'.w.output=V.w.output

theorem Later.refl (V:View):Later V V:=⟨Nat.le_refl _,fun _ _ _=>rfl,fun _ _ h=>h,fun _ _ h _=>h,fun r b x y _ h=>⟨r,x,y,h⟩,fun _ _=>.inl rfl,fun _ _ _ _ _ _ _ _ h=>h,rfl,rfl,rfl⟩

theorem Later.trans {A B D:View} (h:Later A B) (k:Later B D):Later A D where
 size:=Nat.le_trans h.size k.size
 heap b hb hl:=by
  rw [k.heap b (Nat.lt_of_lt_of_le hb h.size) (fun r x y hr=>by obtain ⟨r',x',y',h'⟩:=h.locs r b x y hb hr;exact hl r' x' y' h'),h.heap b hb hl]
 own _ hb ho:=h.own _ hb (k.own _ (Nat.lt_of_lt_of_le hb h.size) ho)
 kept _ hb ho hl:=k.kept _ (Nat.lt_of_lt_of_le hb h.size) (h.kept _ hb ho hl) (fun r x y hr=>by obtain ⟨r',x',y',h'⟩:=h.locs r _ x y hb hr;exact hl r' x' y' h')
 locs r b x y hb hr:=by obtain ⟨r',x',y',h'⟩:=k.locs r b x y (Nat.lt_of_lt_of_le hb h.size) hr;exact h.locs r' b x' y' hb h'
 loc n hn:=by
  rcases h.loc n hn with h1 | h1
  ·rcases k.loc n (by rw [h1];exact hn) with h2 | h2
   ·exact .inl (h2.trans h1)
   ·exact .inr h2
  ·rcases k.loc n (by rw [h1];simp) with h2 | h2
   ·exact .inr (h2.trans h1)
   ·exact .inr h2
 shape n b base size hl heq ty m hs:=by
  rcases h.loc n (by simp [hl]) with h1 | h1
  ·exact k.shape n b base size (h1.trans hl) (heq.trans h1.symm) ty m (h.shape n b base size hl h1 ty m hs)
  ·rcases k.loc n (by rw [h1];simp) with h2 | h2 <;> simp [h2,h1,hl] at heq
 os:=k.os.trans h.os
 tape:=k.tape.trans h.tape
 output:=k.output.trans h.output

/-! ### How the memory relation is carried on -/
def upd (B:Ref→Option Blk) (r:Ref) (k:Blk):Ref→Option Blk:=fun x=>if x=r then some k else B x
theorem Ks (B:Ref→Option Blk) (r:Ref) (k:Blk):upd B r k r=some k:=by simp [upd]
theorem Kt {B:Ref→Option Blk} {r x:Ref} {k:Blk} (h:x≠r):upd B r k x=B x:=by simp [upd,h]

theorem E5 {w w':World} {b:Nat} (h:w'.heap[b]? = w.heap[b]?):w'.shape? b=w.shape? b:=by
 simp [World.shape?,h]
theorem Px {w w':World} {b:Nat} (h:w'.heap[b]? = w.heap[b]?) (o:Nat):w'.frozen? ⟨b,o,none⟩=w.frozen? ⟨b,o,none⟩:=by
 simp [World.frozen?,h]

theorem BlkRep.mono {V V':View} (H:V.To V') {r:Ref} (hl:V'.loc r=V.loc r) (hh:∀ b x y,V.loc r=.at b x y→V'.w.heap[b]? = V.w.heap[b]?) {k:Blk} (h:BlkRep V r k):BlkRep V' r k:=by
 cases k with
 | dead=>exact hl.trans h
 | row elems size ty =>
   rcases h with ⟨h1,h2⟩ | ⟨b,base,cells,fr,h1,h2,h3,h4,h5,h6,h7⟩
   ·exact .inl ⟨hl.trans h1,h2⟩
   ·have e:=hh _ _ _ h1
    exact .inr ⟨b,base,cells,fr,hl.trans h1,e.trans h2,fun n hn=>by rw [Px e];exact h3 n hn,h4,h5,h6,fun i x j c hx hc=>(h7 i x j c hx hc).mono H⟩
 | mp ks vs =>
   obtain ⟨b,es,clock,h1,h2,h3,h4,h5,h6⟩:=h
   exact ⟨b,es,clock,hl.trans h1,(hh _ _ _ h1).trans h2,h3,h4,fun i c hc=>(h5 i c hc).mono H,fun i c hc=>(h6 i c hc).mono H⟩
 | iter s pos =>
   obtain ⟨b,h1,h2⟩:=h
   exact ⟨b,hl.trans h1,(hh _ _ _ h1).trans h2⟩

/-- One name gets a new block content (or is made, or dies); all else stands. -/
theorem MemRel.upd1 {C:Ctx} {V V':View} {B:Ref→Option Blk} (hM:MemRel C V B) (r:Ref) (k:Blk) (hTo:V.To V') (hloc:∀ x,x≠r→V'.loc x=V.loc x)
  (hheap:∀ b,b < V.w.heap.size→(∀ x y,V.loc r≠.at b x y)→(∀ x y,V'.loc r≠.at b x y)→V'.w.heap[b]? = V.w.heap[b]?)
  (hfree:∀ b x y,V'.loc r=.at b x y→∀ r',r'≠r→∀ x' y',V.loc r'≠.at b x' y')
  (hown:∀ b,b < V.w.heap.size→V.own b→(∀ x y,V.loc r≠.at b x y)→V'.own b) (hownr:∀ b x y,V'.loc r=.at b x y→V'.own b) (hlt:∀ b,V'.own b→b < V'.w.heap.size)
  (hblk:BlkRep V' r k):MemRel C V' (upd B r k) where
 blk x k' hx:=by
  by_cases e:x=r
  ·subst e;rw [Ks] at hx;cases hx;exact hblk
  ·rw [Kt e] at hx
   refine (hM.blk x k' hx).mono hTo (hloc x e) fun b p q hb=>hheap b (hM.lt b (hM.own x b p q hb)) (fun p' q' h'=>e (hM.inj _ _ _ _ _ _ _ hb h')) (fun p' q' h'=>hfree b p' q' h' x e p q hb)
 out x hx:=by
  by_cases e:x=r
  ·subst e;rw [Ks] at hx;cases hx
  ·rw [Kt e] at hx;rw [hloc x e];exact hM.out x hx
 inj x y b p q p' q' hx hy:=by
  by_cases ex:x=r
  ·by_cases ey:y=r
   ·rw [ex,ey]
   ·subst ex;rw [hloc y ey] at hy;exact absurd hy (hfree b p q hx y ey p' q')
  ·by_cases ey:y=r
   ·subst ey;rw [hloc x ex] at hx;exact absurd hx (hfree b p' q' hy x ex p q)
   ·rw [hloc x ex] at hx;rw [hloc y ey] at hy;exact hM.inj _ _ _ _ _ _ _ hx hy
 own x b p q hx:=by
  by_cases e:x=r
  ·subst e;exact hownr b p q hx
  ·rw [hloc x e] at hx
   exact hown b (hM.lt b (hM.own x b p q hx)) (hM.own x b p q hx) fun p' q' h'=>e (hM.inj _ _ _ _ _ _ _ hx h')
 lt:=hlt
 glob g cs hg:=by
  obtain ⟨h1,hb,h2⟩:=hM.glob g cs hg
  refine ⟨fun h=>h1 (hTo.own g hb h),Nat.lt_of_lt_of_le hb hTo.size,fun j c hc=>?_⟩
  obtain ⟨v,hv,h3,h4⟩:=h2 j c hc
  exact ⟨v,by rw [Fx (hTo.heap g hb h1)];exact hv,h3,h4.mono hTo.bare⟩

theorem View.To.trans {A B D:View} (h:A.To B) (k:B.To D):A.To D where
 size:=Nat.le_trans h.size k.size
 heap b hb ho:=by rw [k.heap b (Nat.lt_of_lt_of_le hb h.size) (fun h'=>ho (h.own b hb h')),h.heap b hb ho]
 own _ hb ho:=h.own _ hb (k.own _ (Nat.lt_of_lt_of_le hb h.size) ho)
 loc r hr:=by
  rcases h.loc r hr with h1 | h1
  ·rcases k.loc r (by rw [h1];exact hr) with h2 | h2
   ·exact .inl (h2.trans h1)
   ·exact .inr h2
  ·rcases k.loc r (by rw [h1];simp) with h2 | h2
   ·exact .inr (h2.trans h1)
   ·exact .inr h2
 shape r b base size hl heq ty n hs:=by
  rcases h.loc r (by simp [hl]) with h1 | h1
  ·exact k.shape r b base size (h1.trans hl) (heq.trans h1.symm) ty n (h.shape r b base size hl h1 ty n hs)
  ·rcases k.loc r (by rw [h1];simp) with h2 | h2 <;> simp [h2,h1,hl] at heq

/-! #### A draw -/
def View.drew (V:View):View:={ V with w:=V.w.drew }
theorem View.to_drew (V:View):V.To V.drew:=⟨Nat.le_refl _,fun _ _ _=>rfl,fun _ _ h=>h,fun _ _=>.inl rfl,fun _ _ _ _ _ _ _ _ h=>h⟩
theorem View.later_drew (V:View):Later V V.drew:=⟨Nat.le_refl _,fun _ _ _=>rfl,fun _ _ h=>h,fun _ _ h _=>h,fun r _ x y _ h=>⟨r,x,y,h⟩,fun _ _=>.inl rfl,fun _ _ _ _ _ _ _ _ h=>h,rfl,rfl,rfl⟩
theorem MemRel.drew {C:Ctx} {V:View} {B:Ref→Option Blk} (h:MemRel C V B):MemRel C V.drew B where
 blk r k hk:=(h.blk r k hk).mono V.to_drew rfl fun _ _ _ _=>rfl
 out:=h.out
 inj:=h.inj
 own:=h.own
 lt:=h.lt
 glob g cs hg:=by
  obtain ⟨h1,hb,h2⟩:=h.glob g cs hg
  exact ⟨h1,hb,fun j c hc=>let ⟨v,hv,h3,h4⟩:=h2 j c hc;⟨v,hv,h3,h4.mono V.to_drew.bare⟩⟩

/-! #### A new block under a new name -/
def Ih (loc:Ref→Loc) (r:Ref) (x:Loc):Ref→Loc:=fun y=>if y=r then x else loc y
theorem Az (loc:Ref→Loc) (r:Ref) (x:Loc):Ih loc r x r=x:=by simp [Ih]
theorem B0 {loc:Ref→Loc} {r y:Ref} {x:Loc} (h:y≠r):Ih loc r x y=loc y:=by simp [Ih,h]

def View.alloc (V:View) (r:Ref) (k:Obj) (size:Nat):View :=
 { w:=V.w.alloc k,loc:=Ih V.loc r (.at V.w.heap.size 0 size),own:=fun b=>V.own b∨b=V.w.heap.size }

theorem B6 {w:World} {k:Obj} {b:Nat} (h:b < w.heap.size):(w.alloc k).heap[b]? = w.heap[b]? := by
 show (w.heap.push k)[b]? = _
 rw [Array.getElem?_push,if_neg (Nat.ne_of_lt h)]
theorem Dg {w:World} {k:Obj}:(w.alloc k).heap[w.heap.size]? = some k:=by
 show (w.heap.push k)[w.heap.size]? = _
 simp

theorem Fy {V:View} {r:Ref} (hr:V.loc r=.out) (hlt:∀ r b x y,V.loc r=.at b x y→b < V.w.heap.size) (k:Obj) (size:Nat):V.To (V.alloc r k size) where
 size:=by simp [View.alloc]
 heap b hb _:=B6 hb
 own b hb h:=by rcases h with h | h;exact h;omega
 loc x hx:=by
  by_cases e:x=r
  ·subst e;exact absurd hr hx
  ·exact .inl (B0 e)
 shape x b base size hl _ ty n hs:=by
  have:b < V.w.heap.size:=hlt x b _ _ hl
  show (V.w.alloc k).shape? b=_
  rw [E5 (B6 this)];exact hs

theorem O0 {V:View} {r:Ref} (hr:V.loc r=.out) (hlt:∀ r b x y,V.loc r=.at b x y→b < V.w.heap.size) (k:Obj) (size:Nat):Later V (V.alloc r k size) where
 size:=by simp [View.alloc]
 heap b hb _:=B6 hb
 own b hb h:=by rcases h with h | h;exact h;omega
 kept _ _ h _:=.inl h
 locs x b p q hb h:=by
  by_cases e:x=r
  ·subst e;simp only [View.alloc,Az,Loc.at.injEq] at h;omega
  ·simp only [View.alloc,B0 e] at h;exact ⟨x,p,q,h⟩
 loc n hn:=(Fy hr hlt k size).loc _ hn
 shape n:=(Fy hr hlt k size).shape _
 os:=rfl
 tape:=rfl
 output:=rfl

theorem MemRel.locLt {C:Ctx} {V:View} {B:Ref→Option Blk} (h:MemRel C V B):∀ r b x y,V.loc r=.at b x y→b < V.w.heap.size:=fun r b x y hr=>h.lt b (h.own r b x y hr)

theorem MemRel.alloc {C:Ctx} {V:View} {B:Ref→Option Blk} (h:MemRel C V B) {r:Ref} (hr:B r=none) (o:Obj) (size:Nat) (k:Blk) (hk:BlkRep (V.alloc r o size) r k) :
  MemRel C (V.alloc r o size) (upd B r k):=by
 have hro:=h.out r hr
 refine h.upd1 r k (Fy hro h.locLt o size) (fun x hx=>B0 hx) (fun b hb _ _=>B6 hb) ?_ (fun b _ ho _=>.inl ho) ?_ ?_ hk
 ·intro b x y hb r' hr' x' y' hb'
  simp only [View.alloc,Az,Loc.at.injEq] at hb
  have:=h.locLt _ _ _ _ hb'
  omega
 ·intro b x y hb
  simp only [View.alloc,Az,Loc.at.injEq] at hb
  exact .inr hb.1.symm
 ·intro b hb
  simp only [View.alloc,World.size_alloc]
  rcases hb with hb | hb
  ·have:=h.lt b hb;omega
  ·omega

/-- A new row: its first cells are the elements' cells. -/
theorem R6 {V:View} {r:Ref} {cells:Array Value} {ty size:Nat} {elems:List PVal} (hro:V.loc r=.out) (hlt:∀ r b x y,V.loc r=.at b x y→b < V.w.heap.size)
  (h4:elems.length * size≤cells.size) (h5:∀ n,n < cells.size→(cells.getD n undef).oneCell'=true)
  (h6:∀ (i:Nat) (x:PVal),elems[i]? = some x→x.cells.length=size)
  (h7:∀ (i:Nat) (x:PVal) (j:Nat) (c:PVal),elems[i]? = some x→x.cells[j]? = some c→Rep V c (cells.getD (i * size + j) undef)) :
  BlkRep (V.alloc r (.cells cells ty) size) r (.row elems size ty):=by
 refine .inr ⟨V.w.heap.size,0,cells,(0,0),Az _ _ _,Dg,fun n hn=>?_,by omega,h5,h6,fun i x j c hx hc=>?_⟩
 ·exact World.frozen?_alloc_new V.w cells ty n
 ·rw [Nat.zero_add];exact (h7 i x j c hx hc).mono (Fy hro hlt _ _)

/-! #### The content of a block of the call's own changes -/
def View.setHeap (V:View) (w:World):View:={ V with w:=w }

/-- 'w' differs from V's world in block b alone, which keeps its shape. -/
structure OnlyAt (b:Nat) (w w':World):Prop where
 size:w'.heap.size=w.heap.size
 heap:∀ x,x≠b→w'.heap[x]? = w.heap[x]?
 shape:w'.shape? b=w.shape? b
 os:w'.os=w.os
 tape:w'.tape=w.tape
 output:w'.output=w.output

theorem OnlyAt.shape' {b:Nat} {w w':World} (h:OnlyAt b w w') (x:Nat):w'.shape? x=w.shape? x:=by
 by_cases e:x=b
 ·subst e;exact h.shape
 ·exact E5 (h.heap x e)

theorem Ho {V:View} {b:Nat} {w':World} (h:OnlyAt b V.w w') (ho:V.own b):V.To (V.setHeap w') where
 size:=by simp [View.setHeap,h.size]
 heap x _ hx:=h.heap x fun e=>hx (e ▸ ho)
 own _ _ h:=h
 loc _ _:=.inl rfl
 shape _ x _ _ _ _ ty n hs:=by rw [View.setHeap,h.shape' x];exact hs

theorem M7 {V:View} {b:Nat} {w':World} (h:OnlyAt b V.w w') {r:Ref} {x y:Nat} (hr:V.loc r=.at b x y):Later V (V.setHeap w') where
 size:=by simp [View.setHeap,h.size]
 heap z _ hz:=h.heap z fun e=>hz r x y (e ▸ hr)
 own _ _ h:=h
 kept _ _ h _:=h
 locs r b x y _ h:=⟨r,x,y,h⟩
 loc _ _:=.inl rfl
 shape _ x _ _ _ _ ty n hs:=by rw [View.setHeap,h.shape' x];exact hs
 os:=h.os
 tape:=h.tape
 output:=h.output

theorem MemRel.setHeap {C:Ctx} {V:View} {B:Ref→Option Blk} (hM:MemRel C V B) {b:Nat} {w':World} (h:OnlyAt b V.w w') {r:Ref} {x y:Nat} (hr:V.loc r=.at b x y) (k:Blk)
  (hk:BlkRep (V.setHeap w') r k):MemRel C (V.setHeap w') (upd B r k):=by
 refine hM.upd1 r k (Ho h (hM.own r b x y hr)) (fun _ _=>rfl) ?_ ?_ (fun _ _ ho _=>ho) (fun b' x' y' hb'=>hM.own r b' x' y' hb') (fun b hb=>by rw [View.setHeap,h.size];exact hM.lt b hb) hk
 ·intro b' _ hb' _
  exact h.heap b' fun e=>hb' x y (e ▸ hr)
 ·intro b' x' y' hb' r' hr' x'' y'' hb''
  exact hr' (hM.inj _ _ _ _ _ _ _ hb'' hb')

/-! #### A name dies; its block is nobody's ('frz': it may be read for ever) or stays with the call -/
def View.kill (V:View) (r:Ref):View:={ V with loc:=Ih V.loc r .dead }
theorem View.to_kill (V:View) (r:Ref):V.To (V.kill r) where
 size:=Nat.le_refl _
 heap _ _ _:=rfl
 own _ _ h:=h
 loc x _:=by
  by_cases e:x=r
  ·subst e;exact .inr (Az _ _ _)
  ·exact .inl (B0 e)
 shape _ _ _ _ _ _ _ _ h:=h
theorem View.later_kill (V:View) (r:Ref):Later V (V.kill r) where
 size:=Nat.le_refl _
 heap _ _ _:=rfl
 own _ _ h:=h
 kept _ _ h _:=h
 locs x b p q _ h:=by
  by_cases e:x=r
  ·subst e;simp [View.kill,Az] at h
  ·simp only [View.kill,B0 e] at h;exact ⟨x,p,q,h⟩
 loc n hn:=(View.to_kill V r).loc _ hn
 shape _ _ _ _ _ _ _ _ h:=h
 os:=rfl
 tape:=rfl
 output:=rfl
theorem MemRel.kill {C:Ctx} {V:View} {B:Ref→Option Blk} (hM:MemRel C V B) (r:Ref):MemRel C (V.kill r) (upd B r .dead):=by
 refine hM.upd1 r .dead (V.to_kill r) (fun x hx=>B0 hx) (fun _ _ _ _=>rfl) ?_ (fun _ _ ho _=>ho) ?_ hM.lt (Az _ _ _)
 ·intro b x y hb;simp [View.kill,Az] at hb
 ·intro b x y hb;simp [View.kill,Az] at hb

def View.frz (V:View) (r:Ref):View:={ V with loc:=Ih V.loc r .dead,own:=fun b=>V.own b∧∀ x y,V.loc r≠.at b x y }
theorem View.to_frz (V:View) (r:Ref):V.To (V.frz r) where
 size:=Nat.le_refl _
 heap _ _ _:=rfl
 own _ _ h:=h.1
 loc x _:=by
  by_cases e:x=r
  ·subst e;exact .inr (Az _ _ _)
  ·exact .inl (B0 e)
 shape _ _ _ _ _ _ _ _ h:=h
theorem View.later_frz (V:View) (r:Ref):Later V (V.frz r) where
 size:=Nat.le_refl _
 heap _ _ _:=rfl
 own _ _ h:=h.1
 kept _ _ h h':=⟨h,h' r⟩
 locs x b p q _ h:=by
  by_cases e:x=r
  ·subst e;simp [View.frz,Az] at h
  ·simp only [View.frz,B0 e] at h;exact ⟨x,p,q,h⟩
 loc n hn:=(View.to_frz V r).loc _ hn
 shape _ _ _ _ _ _ _ _ h:=h
 os:=rfl
 tape:=rfl
 output:=rfl
theorem MemRel.frz {C:Ctx} {V:View} {B:Ref→Option Blk} (hM:MemRel C V B) (r:Ref):MemRel C (V.frz r) (upd B r .dead):=by
 refine hM.upd1 r .dead (V.to_frz r) (fun x hx=>B0 hx) (fun _ _ _ _=>rfl) ?_ (fun _ _ ho h=>⟨ho,h⟩) ?_ (fun b hb=>hM.lt b hb.1) (Az _ _ _)
 ·intro b x y hb;simp [View.frz,Az] at hb
 ·intro b x y hb;simp [View.frz,Az] at hb

/-! #### A block of the call's own that has no name is taken under a new name, its content changed -/
def View.adopt (V:View) (r:Ref) (w:World) (b base size:Nat):View:={ V with w:=w,loc:=Ih V.loc r (.at b base size) }
theorem Mh {V:View} {b:Nat} {w':World} (h:OnlyAt b V.w w') (ho:V.own b) {r:Ref} (hr:V.loc r=.out) (base size:Nat):V.To (V.adopt r w' b base size) where
 size:=by simp [View.adopt,h.size]
 heap x _ hx:=h.heap x fun e=>hx (e ▸ ho)
 own _ _ h:=h
 loc x hx:=by
  by_cases e:x=r
  ·subst e;exact absurd hr hx
  ·exact .inl (B0 e)
 shape _ x _ _ _ _ ty n hs:=by rw [View.adopt,h.shape' x];exact hs
theorem MemRel.adopt {C:Ctx} {V:View} {B:Ref→Option Blk} (hM:MemRel C V B) {b:Nat} {w':World} (h:OnlyAt b V.w w') (ho:V.own b) {r:Ref} (hr:B r=none) (base size:Nat)
  (hfree:∀ r x y,V.loc r≠.at b x y) (k:Blk) (hk:BlkRep (V.adopt r w' b base size) r k):MemRel C (V.adopt r w' b base size) (upd B r k):=by
 have hro:=hM.out r hr
 refine hM.upd1 r k (Mh h ho hro base size) (fun x hx=>B0 hx) ?_ ?_ (fun _ _ ho _=>ho) ?_ (fun b hb=>by rw [View.adopt,h.size];exact hM.lt b hb) hk
 ·intro b' _ _ hb'
  exact h.heap b' fun e=>hb' base size (by rw [e];exact Az _ _ _)
 ·intro b' x' y' hb' r' hr' x'' y''
  simp only [View.adopt,Az,Loc.at.injEq] at hb'
  rw [←hb'.1];exact hfree _ _ _
 ·intro b' x' y' hb'
  simp only [View.adopt,Az,Loc.at.injEq] at hb'
  exact hb'.1 ▸ ho
end Go.V
namespace Go.V
open Go

/-! ### Operands -/
def Uf:Value→Bool
 | .bool _ | .int _ _ | .string _ | .pointer none | .slice none 0 0 | .map none | .nilFunc | .nilIface=>true
 | _=>false
def ofS:Value→PVal
 | .bool b=>.bool b
 | .int k n=>.int k n
 | .string s=>.str s.data.toList
 | .pointer none=>.nilp
 | .slice none 0 0=>.nils
 | .map none=>.nilmap
 | .nilFunc=>.nilfn
 | .nilIface=>.niliface
 | _=>.any
def ofV:Value→PVal
 | .agg cs=>bif cs.toList.all Uf then .agg (cs.toList.map ofS) else .any
 | v=>ofS v

theorem Aaa (V:View) (v:Value):Rep V (ofS v) v:=by
 unfold ofS
 split <;> constructor
theorem Yb {v:Value} (h:Uf v=true):v.oneCell'=true:=by
 unfold Uf at h;split at h <;> first | rfl | (simp at h)
theorem J2 (V:View) (v:Value):Rep V (ofV v) v:=by
 unfold ofV
 split
 ·rename_i cs
  cases h:cs.toList.all Uf with
  | false=>exact .any
  | true =>
    have h0:=List.all_eq_true.1 h
    refine .agg (by simp) (fun j hj=>?_) (fun j c hc=>?_)
    ·simp at hj
     have e:cs.getD j undef=cs[j]:=by simp [Array.getD,hj]
     rw [e];exact Yb (h0 _ (by simp))
    ·simp only [List.getElem?_map,Option.map_eq_some_iff] at hc
     obtain ⟨v,hv,rfl⟩:=hc
     have hj:j < cs.size:=by
      rcases Nat.lt_or_ge j cs.size with h' | h'
      ·exact h'
      ·simp [h'] at hv
     have e:cs.getD j undef=v:=by simp [Array.getD,hj];simpa [hj] using hv
     rw [e];exact Aaa V v
 ·exact Aaa V v

def val (e:Env):Operand→PVal
 | .tmp t=>gt e t
 | .const v=>ofV v
 | .global g=>.gptr g 0
 | .func f=>.fn (.func f) [] []

theorem Bp {C:Ctx} {n:Nat} {V:View} {σ:St} {a:Act} (h:Rel C n V σ a) (x:Operand):Rep V (val σ.e x) (a.eval x):=by
 cases x with
 | tmp t=>exact h.env t
 | const v=>exact J2 V v
 | global g=>exact .gptr
 | func f=>exact .fn rfl rfl (fun j c hc=>by simp at hc) (fun j c hc=>by simp at hc)

theorem Jk {C:Ctx} {n:Nat} {V:View} {σ:St} {a:Act} (h:Rel C n V σ a) (xs:Array Operand):Ca V (xs.toList.map (val σ.e)) (xs.map a.eval):=by
 refine ⟨by simp,fun j p hp=>?_⟩
 simp only [List.getElem?_map,Option.map_eq_some_iff] at hp
 obtain ⟨x,hx,rfl⟩:=hp
 have hj:j < xs.size:=by
  rcases Nat.lt_or_ge j xs.size with h' | h'
  ·exact h'
  ·simp [h'] at hx
 have hx':xs[j]=x:=by simpa [hj] using hx
 have e:(xs.map a.eval).getD j undef=a.eval x:=by simp [Array.getD,hj,hx']
 rw [e];exact Bp h x

/-! ### The types that an operation names -/
def tyq (P:Program) (t:TypeId):Option (Bool × Nat) :=
 match P.underlying t,P.info? t with
 | some d,some i=>some (d.isRow,i.size)
 | _,_=>none
theorem Jn {P:Program} {t:TypeId} {ag:Bool} {n:Nat} (h:tyq P t=some (ag,n)):∃ d,P.underlying t=some d∧d.isRow=ag∧(P.info? t).map (·.size)=some n:=by
 unfold tyq at h
 split at h
 ·rename_i d i hd hi
  simp at h
  exact ⟨d,hd,h.1,by simp [hi,h.2]⟩
 ·cases h
theorem F3 {P:Program} {t:TypeId} {n:Nat} (h:(P.info? t).map (·.size)=some n) (w:World):(sizeOf t).run P w=.ok n w:=by
 cases hq:P.info? t with
 | none=>simp [hq] at h
 | some i=>simp [hq] at h;simp [sizeOf,typeInfo,hq,h]
theorem Ly {P:Program} {t:TypeId} {d:TypeDesc} (hu:P.underlying t=some d) (w:World):(isAgg t).run P w=.ok d.isRow w:=by
 unfold isAgg
 rw [Sem.run_bind,run_underlying hu w]
 cases d <;> simp_all

/-! ### Cells -/
structure CellsRep (V:View) (b o:Nat) (cs:List PVal) (f:Nat→Value):Prop where
 cell:∀ n,n < cs.length→V.w.cell? ⟨b,o + n,none⟩=some (f n)∧(f n).oneCell'=true
 rep:∀ (n:Nat) (c:PVal),cs[n]? = some c→Rep V c (f n)

def C6 (ag:Bool) (n:Nat) (cs:List PVal) (off:Nat) (K:PVal→Prop):Prop :=
 match ag with
 | true=>off + n≤cs.length∧K (.agg ((cs.drop off).take n))
 | false=>match cs[off]? with
   | some c=>K c
   | none=>False

theorem Mv {P:Program} {V:View} {b o:Nat} {cs:List PVal} {f:Nat→Value} (hc:CellsRep V b o cs f) {t:TypeId} {ag:Bool} {n off:Nat} (ht:tyq P t=some (ag,n)) {K:PVal→Prop}
  (h:C6 ag n cs off K):∃ v p,(loadVar t ⟨b,o + off,none⟩).run P V.w=.ok v V.w∧Rep V p v∧K p:=by
 obtain ⟨d,hu,hd,hi⟩:=Jn ht
 cases ag with
 | true =>
   obtain ⟨h1,h2⟩:=h
   let vs:List Value:=(List.range n).map fun j=>f (off + j)
   have hl:vs.length=n:=by simp [vs]
   have hv:∀ j,j < n→vs[j]? = some (f (off + j)):=fun j hj=>by simp [vs,hj]
   refine ⟨.agg vs.toArray,_,run_loadVar_mid V.w b (o + off) t vs d (fun j v hj=>?_) hu hd (by rw [hi,hl]),?_,h2⟩
   ·have hjn:j < n:=by
     rcases Nat.lt_or_ge j n with h' | h'
     ·exact h'
     ·rw [List.getElem?_eq_none (by omega)] at hj;cases hj
    rw [hv j hjn] at hj;cases hj
    rw [Nat.add_assoc];exact (hc.cell (off + j) (by omega)).1
   ·refine .agg (by simp [hl];omega) (fun j hj=>?_) (fun j c hj=>?_)
    ·simp at hj
     have e:vs.toArray.getD j undef=f (off + j):=by
      have:=hv j (by omega)
      simp [Array.getD,hl,show j < n by omega]
      rw [List.getElem?_eq_getElem (by omega)] at this
      exact Option.some.inj this
     rw [e];exact (hc.cell (off + j) (by omega)).2
    ·rw [List.getElem?_take] at hj
     split at hj
     ·rename_i hjn
      have e:vs.toArray.getD j undef=f (off + j):=by
       have:=hv j hjn
       simp [Array.getD,hl,hjn]
       rw [List.getElem?_eq_getElem (by omega)] at this
       exact Option.some.inj this
      rw [e]
      rw [List.getElem?_drop] at hj
      exact hc.rep _ _ hj
     ·cases hj
 | false =>
   unfold C6 at h
   cases hq:cs[off]? with
   | none=>simp [hq] at h
   | some c =>
     simp only [hq] at h
     have hlt:off < cs.length:=(List.getElem?_eq_some_iff.1 hq).1
     refine ⟨f off,c,?_,hc.rep _ _ hq,h⟩
     have h1:=(hc.cell off hlt).1
     unfold loadVar
     rw [Sem.run_bind,Ly hu,hd]
     simp [h1]

/-! ### A store into a block -/
theorem Ug {w:World} {b:Nat} {cells:Array Value} {ty:Nat} {fr:Nat × Nat} (h:w.heap[b]? = some (.cells cells ty fr)) (o:Nat) (v:Value) :
  (w.setCell ⟨b,o,none⟩ v).heap[b]? = some (.cells (cells.setIfInBounds o v) ty fr):=by
 simp [World.setCell,Array.getElem?_modify,h]
theorem Pw {w:World} {b x:Nat} (h:x≠b) (o:Nat) (v:Value):(w.setCell ⟨b,o,none⟩ v).heap[x]? = w.heap[x]? := by
 simp [World.setCell,Array.getElem?_modify,Ne.symm h]

theorem Lj {α:Type} (a:Array α) (i j:Nat) (v d:α) (hi:i < a.size):(a.setIfInBounds i v).getD j d=if j=i then v else a.getD j d:=by
 rw [Array.getD_eq_getD_getElem?,Array.getD_eq_getD_getElem?,Array.getElem?_setIfInBounds]
 by_cases e:i=j
 ·subst e;simp [hi]
 ·rw [if_neg e,if_neg (Ne.symm e)]

theorem G8 (b:Nat) (ty:Nat) (fr:Nat × Nat):∀ (vs:List Value) (o:Nat) (w:World) (cells:Array Value),w.heap[b]? = some (.cells cells ty fr)→o + vs.length≤cells.size →
  ∃ cells',(w.setCells b o vs).heap[b]? = some (.cells cells' ty fr)∧cells'.size=cells.size ∧
    ∀ n,cells'.getD n undef=if o≤n∧n < o + vs.length then vs.getD (n - o) undef else cells.getD n undef
 | [],o,w,cells,h,_=>⟨cells,h,rfl,fun n=>by rw [if_neg (by simp)]⟩
 | v::vs,o,w,cells,h,hl=>by
   simp at hl
   obtain ⟨cells',h1,h2,h3⟩:=G8 b ty fr vs (o + 1) (w.setCell ⟨b,o,none⟩ v) _ (Ug h o v) (by simp;omega)
   refine ⟨cells',h1,by simpa using h2,fun n=>?_⟩
   rw [h3 n,Lj _ _ _ _ _ (by omega)]
   by_cases e:n=o
   ·subst e
    rw [if_neg (by omega),if_pos rfl,if_pos (by simp)];simp
   ·by_cases hn:o + 1≤n∧n < o + 1 + vs.length
    ·rw [if_pos hn,if_pos (by simp;omega),show n - o=(n - (o + 1)) + 1 by omega];simp
    ·rw [if_neg hn,if_neg e,if_neg (by simp;omega)]
theorem Me (b:Nat):∀ (vs:List Value) (o:Nat) (w:World),(w.setCells b o vs).heap.size=w.heap.size∧(∀ x,x≠b→(w.setCells b o vs).heap[x]? = w.heap[x]?) ∧
  (w.setCells b o vs).os=w.os∧(w.setCells b o vs).tape=w.tape∧(w.setCells b o vs).output=w.output
 | [],_,w=>⟨rfl,fun _ _=>rfl,rfl,rfl,rfl⟩
 | v::vs,o,w=>by
   obtain ⟨h1,h2,h3,h4,h5⟩:=Me b vs (o + 1) (w.setCell ⟨b,o,none⟩ v)
   exact ⟨by rw [World.setCells,h1];simp,fun x hx=>by rw [World.setCells,h2 x hx];exact Pw hx o v,h3,h4,h5⟩
theorem Kh {w:World} {b:Nat} {cells:Array Value} {ty:Nat} {fr:Nat × Nat} (h:w.heap[b]? = some (.cells cells ty fr)) {vs:List Value} {o:Nat} (hl:o + vs.length≤cells.size):OnlyAt b w (w.setCells b o vs):=by
 obtain ⟨cells',h1,h2,_⟩:=G8 b ty fr vs o w cells h hl
 obtain ⟨g1,g2,g3,g4,g5⟩:=Me b vs o w
 refine ⟨g1,g2,?_,g3,g4,g5⟩
 simp [World.shape?,h1,h,h2]

theorem It {w:World} {b:Nat} {cells:Array Value} {ty:Nat} {fr:Nat × Nat} (h:w.heap[b]? = some (.cells cells ty fr)) {n:Nat} (hn:n < cells.size):w.cell? ⟨b,n,none⟩=some (cells.getD n undef):=by
 simp [World.cell?,h,Array.getD,hn]

/-- The cells of a solid value, as the model has them. -/
theorem rep_cells {V:View} {p:PVal} {v:Value} (h:Rep V p v) (hs:p.solid=true) (h1:∀ cs,p≠.agg cs→v.oneCell'=true) :
  v.cells.size=p.cells.length∧(∀ j,j < p.cells.length→(v.cells.getD j undef).oneCell'=true)∧∀ (j:Nat) (c:PVal),p.cells[j]? = some c→Rep V c (v.cells.getD j undef):=by
 by_cases hag:∃ cs,p=.agg cs
 ·obtain ⟨cs,rfl⟩:=hag
  cases h with
  | agg hl h2 h=>exact ⟨hl,h2,h⟩
 ·have hp:p.cells=[p]:=by cases p <;> first | rfl | exact absurd ⟨_,rfl⟩ hag
  have hone:v.oneCell'=true:=h1 [] (fun e=>hag ⟨_,e⟩)
  have hv:v.cells=#[v]:=by cases v <;> first | rfl | (simp [Value.oneCell'] at hone)
  rw [hp,hv]
  refine ⟨rfl,fun j hj=>?_,fun j c hc=>?_⟩
  ·simp at hj;subst hj;simpa [Array.getD] using hone
  ·cases j with
   | zero=>simp at hc;subst hc;simpa [Array.getD] using h
   | succ j=>simp at hc

theorem rep_one {V:View} {p:PVal} {v:Value} (h:Rep V p v) (hs:p.solid=true) (hna:∀ cs,p≠.agg cs):v.oneCell'=true:=by
 cases h <;> first | rfl | assumption | exact absurd rfl (hna _) | (simp [PVal.solid] at hs)

theorem E6 {V:View} {p:PVal} {v:Value} (h:Rep V p v) (hs:p.solid=true) :
  v.cells.size=p.cells.length∧(∀ j,j < p.cells.length→(v.cells.getD j undef).oneCell'=true)∧∀ (j:Nat) (c:PVal),p.cells[j]? = some c→Rep V c (v.cells.getD j undef):=by
 by_cases hag:∃ cs,p=.agg cs
 ·obtain ⟨cs,rfl⟩:=hag
  cases h with
  | agg hl h1 h=>exact ⟨hl,h1,h⟩
 ·exact rep_cells h hs fun cs _=>rep_one h hs fun cs e=>hag ⟨cs,e⟩

/-! ### Load and store at a pointer -/
theorem row_at {C:Ctx} {V:View} {B:Ref→Option Blk} (hM:MemRel C V B) {r:Ref} {elems:List PVal} {size ty:Nat} (hB:B r=some (.row elems size ty)) {i:Nat} {x:PVal} (hx:elems[i]? = some x) :
  ∃ b base cells fr,V.loc r=.at b base size∧V.w.heap[b]? = some (.cells cells ty fr)∧base + elems.length * size≤cells.size∧x.cells.length=size∧base + i * size + size≤cells.size ∧
    CellsRep V b (base + i * size) x.cells (fun j=>cells.getD (base + i * size + j) undef):=by
 rcases hM.blk r _ hB with ⟨_,h⟩ | ⟨b,base,cells,fr,h1,h2,h3,h4,h5,h6,h7⟩
 ·subst h;simp at hx
 ·have hi:i < elems.length:=(List.getElem?_eq_some_iff.1 hx).1
  have hs:=h6 i x hx
  have hle:i * size + size≤elems.length * size:=by rw [←Nat.succ_mul];exact Nat.mul_le_mul_right _ hi
  refine ⟨b,base,cells,fr,h1,h2,h4,hs,by omega,fun n hn=>⟨It h2 (by omega),h5 _ (by omega)⟩,fun n c hc=>h7 i x n c hx hc⟩

def Ia (C:Ctx) (t:TypeId) (p:PVal) (σ:St) (K:PVal→Prop):Prop :=
 match tyq C.P t with
 | none=>False
 | some (ag,n)=>match p with
   | .ptr r i off=>match Ao σ.o σ.l r with
     | some (.row elems _ _)=>match elems[i]? with
       | some x=>C6 ag n x.cells off K
       | none=>False
     | _=>False
   | .eptr x off=>C6 ag n x.cells off K
   | .gptr g off=>match C.G g with
     | some cs=>C6 ag n cs off K
     | none=>False
   | _=>False

theorem O3 {C:Ctx} {V:View} {σ:St} (hM:MemRel C V (Ao σ.o σ.l)) {t:TypeId} {p:PVal} {v:Value} (hp:Rep V p v) {K:PVal→Prop} (h:Ia C t p σ K) :
  ∃ u q,(Instr.loadAt t v).run C.P V.w=.ok u V.w∧Rep V q u∧K q:=by
 unfold Ia at h
 split at h
 ·exact h.elim
 ·rename_i ag n ht
  split at h
  ·rename_i r i off
   split at h
   ·rename_i elems size ty hB
    split at h
    ·rename_i x hx
     obtain ⟨b,base,cells,fr,h1,h2,h3,h4,h5,h6⟩:=row_at hM hB hx
     cases hp with
     | ptrDead hd _=>rw [h1] at hd;cases hd
     | ptr hl =>
       rw [h1] at hl;cases hl
       obtain ⟨u,q,hr,hq,hK⟩:=Mv h6 ht h
       exact ⟨u,q,by simp only [Instr.loadAt,Instr.sureAddr,Sem.run_bind,Sem.run_pure,Result.andThen_ok,hr],hq,hK⟩
    ·exact h.elim
   ·exact h.elim
  ·rename_i x off
   cases hp with
   | eptr f hown hb hc hx =>
     obtain ⟨u,q,hr,hq,hK⟩:=Mv ⟨hc,hx⟩ ht h
     exact ⟨u,q,by simp only [Instr.loadAt,Instr.sureAddr,Sem.run_bind,Sem.run_pure,Result.andThen_ok,hr],hq,hK⟩
  ·rename_i g off
   split at h
   ·rename_i cs hg
    obtain ⟨_,_,h2⟩:=hM.glob g cs hg
    cases hp with
    | gptr =>
      have hf:∀ j,∃ v,j < cs.length→V.w.cell? ⟨g,j,none⟩=some v∧v.oneCell'=true∧∀ c,cs[j]? = some c→Rep V c v:=fun j=>by
       rcases Nat.lt_or_ge j cs.length with hj | hj
       ·obtain ⟨v,a,b,c⟩:=h2 j cs[j] (List.getElem?_eq_getElem hj)
        exact ⟨v,fun _=>⟨a,b,fun c' hc'=>by rw [List.getElem?_eq_getElem hj] at hc';cases hc';exact c.of_bare V rfl rfl⟩⟩
       ·exact ⟨undef,fun hj'=>by omega⟩
      have hcr:CellsRep V g 0 cs (fun j=>Classical.choose (hf j)) :=
       ⟨fun n hn=>by have:=Classical.choose_spec (hf n) hn;rw [Nat.zero_add];exact ⟨this.1,this.2.1⟩,
        fun n c hc=>(Classical.choose_spec (hf n) (List.getElem?_eq_some_iff.1 hc).1).2.2 c hc⟩
      obtain ⟨u,q,hr,hq,hK⟩:=Mv hcr ht h
      rw [Nat.zero_add] at hr
      exact ⟨u,q,by simp only [Instr.loadAt,Instr.sureAddr,Sem.run_bind,Sem.run_pure,Result.andThen_ok,hr],hq,hK⟩
   ·exact h.elim
  ·exact h.elim

/-- Cells put in the place of cells. -/
def Hl (cs:List PVal) (off:Nat) (vs:List PVal):List PVal:=cs.take off ++ vs ++ cs.drop (off + vs.length)
theorem Jf {cs vs:List PVal} {off:Nat} (h:off + vs.length≤cs.length):(Hl cs off vs).length=cs.length:=by
 simp [Hl];omega
theorem Kj {cs vs:List PVal} {off:Nat} (h:off + vs.length≤cs.length) (j:Nat) :
  (Hl cs off vs)[j]? = if off≤j∧j < off + vs.length then vs[j - off]? else cs[j]? := by
 unfold Hl
 by_cases h1:j < off
 ·rw [if_neg (by omega),List.append_assoc,List.getElem?_append_left (by simp;omega),List.getElem?_take,if_pos h1]
 ·by_cases h2:j < off + vs.length
  ·rw [if_pos (by omega),List.append_assoc,List.getElem?_append_right (by simp;omega),List.getElem?_append_left (by simp;omega)]
   congr 1;simp;omega
  ·rw [if_neg (by omega),List.getElem?_append_right (by simp;omega),List.getElem?_drop]
   congr 1;simp;omega

/-- An element with the value v at its cell off. -/
def Rf (x:PVal) (off:Nat) (v:PVal) (K:PVal→Prop):Prop :=
 match x,v with
 | .agg cs,v=>off + v.cells.length≤cs.length∧K (.agg (Hl cs off v.cells))
 | _,.agg _=>False
 | _,v=>off=0∧K v

theorem putc_spec {x:PVal} {off:Nat} {v:PVal} {K:PVal→Prop} (h:Rf x off v K):∃ y,K y∧off + v.cells.length≤x.cells.length∧y.cells=Hl x.cells off v.cells:=by
 unfold Rf at h
 split at h
 ·exact ⟨_,h.2,h.1,rfl⟩
 ·exact h.elim
 ·rename_i hx hv
  obtain ⟨rfl,hK⟩:=h
  have e1:x.cells=[x]:=by cases x <;> first | rfl | (exfalso;exact hx _ rfl)
  have e2:v.cells=[v]:=by cases v <;> first | rfl | (exfalso;exact hv _ rfl)
  exact ⟨v,hK,by rw [e1,e2];simp,by rw [e1,e2];simp [Hl]⟩

def A1 (σ:St) (r:Ref) (k:Blk):St :=
 match r with
 | .o n=>{ σ with o:=σ.o.set n k }
 | .l n=>{ σ with l:=σ.l.set n k }
theorem Ep {σ:St} {r:Ref} {k k':Blk} (h:Ao σ.o σ.l r=some k'):Ao (A1 σ r k).o (A1 σ r k).l=upd (Ao σ.o σ.l) r k:=by
 funext x
 cases r with
 | o n =>
   have hn:n < σ.o.length:=(List.getElem?_eq_some_iff.1 h).1
   cases x with
   | o m =>
     simp only [A1,Ao,upd,List.getElem?_set]
     by_cases e:n=m
     ·subst e;simp [hn]
     ·rw [if_neg e,if_neg (by simpa using Ne.symm e)]
   | l m=>simp [A1,Ao,upd]
 | l n =>
   have hn:n < σ.l.length:=(List.getElem?_eq_some_iff.1 h).1
   cases x with
   | l m =>
     simp only [A1,Ao,upd,List.getElem?_set]
     by_cases e:n=m
     ·subst e;simp [hn]
     ·rw [if_neg e,if_neg (by simpa using Ne.symm e)]
   | o m=>simp [A1,Ao,upd]
theorem Ni (σ:St) (r:Ref) (k:Blk):(A1 σ r k).e=σ.e:=by cases r <;> rfl
theorem Nj (σ:St) (r:Ref) (k:Blk):(A1 σ r k).d=σ.d:=by cases r <;> rfl

def Hi (C:Ctx) (t:TypeId) (p v:PVal) (σ:St) (K:St→Prop):Prop :=
 match tyq C.P t with
 | none=>False
 | some (_,n)=>v.solid=true∧v.cells.length=n∧match p with
   | .ptr r i off=>match Ao σ.o σ.l r with
     | some (.row elems size ty)=>match elems[i]? with
       | some x=>Rf x off v fun y=>K (A1 σ r (.row (elems.set i y) size ty))
       | none=>False
     | _=>False
   | _=>False

/-- What an operation leaves. -/
structure Went (C:Ctx) (V:View) (σ:St) (V':View) (σ':St):Prop where
 to:V.To V'
 later:Later V V'
 mem:MemRel C V' (Ao σ'.o σ'.l)
 e:σ'.e=σ.e
 d:σ'.d=σ.d

theorem Went.refl {C:Ctx} {V:View} {σ:St} (hM:MemRel C V (Ao σ.o σ.l)):Went C V σ V σ:=⟨.refl _,.refl _,hM,rfl,rfl⟩

theorem Tx {C:Ctx} {V:View} {σ:St} (hM:MemRel C V (Ao σ.o σ.l)) {t:TypeId} {p q:PVal} {v u:Value} (hp:Rep V p v) (hq:Rep V q u) {K:St→Prop} (h:Hi C t p q σ K) :
  ∃ V' σ',(Instr.storeAt t v u).run C.P V.w=.ok () V'.w∧Went C V σ V' σ'∧K σ':=by
 unfold Hi at h
 split at h
 ·exact h.elim
 ·rename_i ag n ht
  obtain ⟨hs,hl,h⟩:=h
  split at h
  ·rename_i r i off
   split at h
   ·rename_i elems size ty hB
    split at h
    ·rename_i x hx
     obtain ⟨y,hK,hle,hy⟩:=putc_spec h
     have hM':=hM.blk r _ hB
     obtain ⟨b,base,cells,fr,h1,h2,h3,h4,h5,h6⟩:=row_at hM hB hx
     rcases hM' with ⟨_,h0⟩ | ⟨b',base',cells',fr',k1,k2,k3,k4,k5,k6,k7⟩
     ·subst h0;simp at hx
     rw [h1] at k1;cases k1
     rw [h2] at k2;cases k2
     obtain ⟨d,hu,_,hi⟩:=Jn ht
     obtain ⟨c1,c2,c3⟩:=E6 hq hs
     cases hp with
     | ptrDead hd _=>rw [h1] at hd;cases hd
     | ptr hloc =>
       rw [h1] at hloc;cases hloc
       have hcs:u.cells.toList.length=q.cells.length:=by simpa using c1
       have hrange:base + i * size + off + u.cells.toList.length≤cells.size:=by rw [hcs];omega
       have hrun:=run_storeCells_cells (P:=C.P) b (base + i * size + off) u.cells.toList 0 V.w
        (fun j hj=>by rw [Nat.add_zero,It h2 (by omega)];rfl)
        (fun j hj=>by rw [Nat.add_zero];exact k3 _ (by omega))
        (fun v hv=>by
         obtain ⟨j,hj,rfl⟩:=List.getElem_of_mem hv
         have:=c2 j (by omega)
         simp at hj
         simpa [Array.getD_eq_getD_getElem?,hj] using this)
       rw [Nat.add_zero] at hrun
       obtain ⟨cells',g1,g2,g3⟩:=G8 b ty fr u.cells.toList _ V.w cells h2 hrange
       have honly:=Kh h2 hrange
       refine ⟨V.setHeap (V.w.setCells b (base + i * size + off) u.cells.toList),_,?_,⟨Ho honly (hM.own _ _ _ _ h1),M7 honly h1,?_,Ni _ _ _,Nj _ _ _⟩,hK⟩
       ·simp only [Instr.storeAt,Instr.sureAddr,Sem.run_bind,Sem.run_pure,Result.andThen_ok]
        unfold storeVar
        rw [Sem.run_bind,F3 hi]
        simp only [Result.andThen_ok,c1,hl,ne_eq,not_true_eq_false,if_false]
        exact hrun
       ·rw [Ep hB]
        refine hM.setHeap honly h1 _ (.inr ⟨b,base,cells',fr,h1,g1,fun m hm=>?_,?_,fun m hm=>?_,fun i' x' hx'=>?_,fun i' x' j c hx' hc=>?_⟩)
        ·simp only [View.setHeap];rw [World.frozen?_setCells];exact k3 m (by omega)
        ·rw [List.length_set,g2];exact h3
        ·rw [g3 m]
         split
         ·rename_i hin
          have:=c2 (m - (base + i * size + off)) (by omega)
          simpa [Array.getD_eq_getD_getElem?,List.getD_eq_getElem?_getD] using this
         ·exact k5 m (by omega)
        ·rw [List.getElem?_set] at hx'
         split at hx'
         ·split at hx'
          ·cases hx';rw [hy,Jf hle];exact h4
          ·cases hx'
         ·exact k6 i' x' hx'
        ·have hmono:∀ {c v},Rep V c v→Rep (V.setHeap (V.w.setCells b (base + i * size + off) u.cells.toList)) c v:=fun h=>h.mono (Ho honly (hM.own _ _ _ _ h1))
         rw [g3]
         rw [List.getElem?_set] at hx'
         split at hx'
         ·rename_i e
          subst e
          split at hx'
          ·cases hx'
           rw [hy,Kj hle] at hc
           split at hc
           ·rename_i hin
            rw [if_pos (by omega)]
            have:=c3 _ _ hc
            have e2:base + i * size + j - (base + i * size + off)=j - off:=by omega
            rw [e2]
            simp only [List.getD_eq_getElem?_getD,Array.getElem?_toList]
            rw [←Array.getD_eq_getD_getElem?]
            exact hmono this
           ·rename_i hin
            rw [if_neg (by omega)]
            exact hmono (k7 i x j c hx hc)
          ·cases hx'
         ·rename_i e
          have hsz:=k6 i' x' hx'
          have hj:j < size:=by rw [←hsz];exact (List.getElem?_eq_some_iff.1 hc).1
          rw [if_neg ?_]
          ·exact hmono (k7 i' x' j c hx' hc)
          ·intro hin
           have h8:off + q.cells.length≤size:=by omega
           rcases Nat.lt_or_gt_of_ne e with hlt | hlt
           ·have:i * size + size≤i' * size:=by rw [←Nat.succ_mul];exact Nat.mul_le_mul_right _ hlt
            omega
           ·have:i' * size + size≤i * size:=by rw [←Nat.succ_mul];exact Nat.mul_le_mul_right _ hlt
            omega
    ·exact h.elim
   ·exact h.elim
  ·exact h.elim

/-! ### New blocks -/
def B8 (σ:St) (k:Blk):St:={ σ with l:=σ.l ++ [k] }
theorem M4 (σ:St) (k:Blk):Ao (B8 σ k).o (B8 σ k).l=upd (Ao σ.o σ.l) (.l σ.l.length) k:=by
 funext x
 cases x with
 | o m=>simp [B8,Ao,upd]
 | l m =>
   simp only [B8,Ao,upd]
   by_cases e:m=σ.l.length
   ·subst e;simp
   ·rw [if_neg (by simpa using e)]
    rcases Nat.lt_or_ge m σ.l.length with h | h
    ·rw [List.getElem?_append_left h]
    ·rw [List.getElem?_eq_none (by simp;omega),List.getElem?_eq_none h]
theorem Fe (σ:St):Ao σ.o σ.l (.l σ.l.length)=none:=by simp [Ao]

/-- A new row of cells behind which the elements lie. -/
theorem Nq {C:Ctx} {V:View} {σ:St} (hM:MemRel C V (Ao σ.o σ.l)) (cells:Array Value) (ty size:Nat) (elems:List PVal)
  (h4:elems.length * size≤cells.size) (h5:∀ n,n < cells.size→(cells.getD n undef).oneCell'=true)
  (h6:∀ (i:Nat) (x:PVal),elems[i]? = some x→x.cells.length=size)
  (h7:∀ (i:Nat) (x:PVal) (j:Nat) (c:PVal),elems[i]? = some x→x.cells[j]? = some c→Rep V c (cells.getD (i * size + j) undef)) :
  Went C V σ (V.alloc (.l σ.l.length) (.cells cells ty) size) (B8 σ (.row elems size ty)):=by
 have hro:=hM.out _ (Fe σ)
 refine ⟨Fy hro hM.locLt _ _,O0 hro hM.locLt _ _,?_,rfl,rfl⟩
 rw [M4]
 exact hM.alloc (Fe σ) _ _ _ (R6 hro hM.locLt h4 h5 h6 h7)

theorem Hg {n:Nat}:∀ {vs:List Value},(∀ v∈vs,v.cells.size=n)→(vs.flatMap fun v=>v.cells.toList).length=vs.length * n
 | [],_=>by simp
 | v::vs,h=>by
   simp only [List.flatMap_cons,List.length_append,List.length_cons,Array.length_toList]
   rw [Hg (fun u hu=>h u (List.mem_cons_of_mem _ hu)),h v List.mem_cons_self,Nat.succ_mul,Nat.add_comm]

theorem L4 {n:Nat} (hn:0 < n) {vs:List Value} (hv:∀ v∈vs,v.cells.size=n) {i j:Nat} (hj:j < n) :
  (vs.flatMap fun v=>v.cells.toList).toArray.getD (i * n + j) undef=((vs[i]?).map fun v=>v.cells.getD j undef).getD undef:=by
 rw [Array.getD_eq_getD_getElem?,List.getElem?_toArray,Great.flat_get hn vs hv]
 have e1:(i * n + j) / n=i:=by rw [Nat.add_comm,Nat.add_mul_div_right _ _ hn,Nat.div_eq_of_lt hj,Nat.zero_add]
 have e2:(i * n + j) % n=j:=by rw [Nat.add_comm,Nat.add_mul_mod_self_right,Nat.mod_eq_of_lt hj]
 rw [e1,e2]
 cases h:vs[i]? with
 | none=>rfl
 | some v =>
   have:=hv v (List.mem_of_getElem? h)
   simp [Array.getD_eq_getD_getElem?,this,hj]

/-- .. as the cells of values side by side. -/
theorem On {C:Ctx} {V:View} {σ:St} (hM:MemRel C V (Ao σ.o σ.l)) (ty n:Nat) (hn:0 < n) (ps:List PVal) (vs:List Value) (hl:vs.length=ps.length)
  (hs:∀ p∈ps,p.solid=true∧p.cells.length=n) (hr:∀ (j:Nat) (p:PVal),ps[j]? = some p→Rep V p (vs.getD j undef)) :
  (∀ v∈vs,v.cells.size=n)∧Went C V σ (V.alloc (.l σ.l.length) (.cells (vs.flatMap fun v=>v.cells.toList).toArray ty) n) (B8 σ (.row ps n ty)):=by
 have hv:∀ j (hj:j < vs.length),vs[j].cells.size=n∧(∀ i,i < n→(vs[j].cells.getD i undef).oneCell'=true)∧∀ (i:Nat) (c:PVal),(ps[j]'(by omega)).cells[i]? = some c→Rep V c (vs[j].cells.getD i undef):=fun j hj=>by
  have hp:=hs (ps[j]'(by omega)) (List.getElem_mem _)
  have h1:=hr j _ (List.getElem?_eq_getElem (by omega))
  have e:vs.getD j undef=vs[j]:=by simp [List.getD_eq_getElem?_getD,hj]
  rw [e] at h1
  obtain ⟨a,b,c⟩:=E6 h1 hp.1
  rw [hp.2] at a b
  exact ⟨a,b,c⟩
 have hv':∀ v∈vs,v.cells.size=n:=fun v hv1=>by
  obtain ⟨j,hj,rfl⟩:=List.getElem_of_mem hv1
  exact (hv j hj).1
 have hlen:(vs.flatMap fun v=>v.cells.toList).length=vs.length * n:=Hg hv'
 refine ⟨hv',Nq hM _ ty n ps ?_ ?_ ?_ ?_⟩
 ·simp [hlen,hl]
 ·intro m hm
  simp only [List.size_toArray,hlen] at hm
  have e:m=m / n * n + m % n:=by rw [Nat.mul_comm];exact (Nat.div_add_mod m n).symm
  rw [e,L4 hn hv' (Nat.mod_lt _ hn)]
  have hd:m / n < vs.length:=(Nat.div_lt_iff_lt_mul hn).2 hm
  rw [List.getElem?_eq_getElem hd]
  exact (hv _ hd).2.1 _ (Nat.mod_lt _ hn)
 ·intro i x hx;exact (hs x (List.mem_of_getElem? hx)).2
 ·intro i x j c hx hc
  have hi:i < ps.length:=(List.getElem?_eq_some_iff.1 hx).1
  have hx':ps[i]=x:=(List.getElem?_eq_some_iff.1 hx).2
  have hj:j < n:=by rw [←(hs x (List.mem_of_getElem? hx)).2];exact (List.getElem?_eq_some_iff.1 hc).1
  rw [L4 hn hv' hj,List.getElem?_eq_getElem (by omega)]
  exact (hv i (by omega)).2.2 j c (by rw [hx'];exact hc)

/-! #### box, alloc -/
def Ub (e:TypeId) (p:PVal) (σ:St) (K:PVal→St→Prop):Prop :=
 p.solid=true∧K (.ptr (.l σ.l.length) 0 0) (B8 σ (.row [p] p.cells.length e))
theorem Qy {C:Ctx} {V:View} {σ:St} (hM:MemRel C V (Ao σ.o σ.l)) {e:TypeId} {p:PVal} {v:Value} (hp:Rep V p v) {K:PVal→St→Prop} (h:Ub e p σ K) :
  ∃ V' σ' q u,(Instr.box e v).run C.P V.w=.ok u V'.w∧Went C V σ V' σ'∧Rep V' q u∧K q σ':=by
 obtain ⟨hs,hK⟩:=h
 obtain ⟨c1,c2,c3⟩:=E6 hp hs
 have hW:=Nq hM v.cells e p.cells.length [p] (by simp [c1]) (fun n hn=>c2 n (by omega)) (fun i x hx=>by cases i <;> simp at hx;rw [hx]) (fun i x j c hx hc=>by
  cases i with
  | succ i=>simp at hx
  | zero=>simp at hx;subst hx;simpa using c3 j c hc)
 refine ⟨_,_,_,.pointer (some ⟨V.w.heap.size,0,none⟩),?_,hW,?_,hK⟩
 ·simp [Instr.box,newVar,newRow,View.alloc]
 ·have:Rep (V.alloc (.l σ.l.length) (.cells v.cells e) p.cells.length) (.ptr (.l σ.l.length) 0 0) (.pointer (some ⟨V.w.heap.size,0 + 0 * p.cells.length + 0,none⟩)):=.ptr (Az _ _ _)
  simpa using this

/-- The zero value of a type. -/
def tz (P:Program) (t:TypeId):Option PVal:=((P.info? t).bind (·.zero)).map ofV
def Jb (C:Ctx) (e:TypeId) (σ:St) (K:PVal→St→Prop):Prop :=
 match tz C.P e with
 | some z=>Ub e z σ K
 | none=>False
theorem Je {P:Program} {t:TypeId} {z:Value} (h:(P.info? t).bind (·.zero)=some z) (w:World):(zeroValue t).run P w=.ok z w:=by
 cases hi:P.info? t with
 | none=>simp [hi] at h
 | some i=>simp [hi] at h;simp [zeroValue,typeInfo,hi,h]
theorem Ud {C:Ctx} {V:View} {σ:St} (hM:MemRel C V (Ao σ.o σ.l)) {e:TypeId} {K:PVal→St→Prop} (h:Jb C e σ K) :
  ∃ V' σ' q u,(Instr.alloc e true (.tuple #[])).run C.P V.w=.ok u V'.w∧Went C V σ V' σ'∧Rep V' q u∧K q σ':=by
 unfold Jb at h
 split at h
 ·rename_i z hz
  simp only [tz,Option.map_eq_some_iff] at hz
  obtain ⟨zv,hzv,rfl⟩:=hz
  obtain ⟨V',σ',q,u,hr,rest⟩:=Qy (v:=zv) hM (J2 V zv) h
  refine ⟨V',σ',q,u,?_,rest⟩
  unfold Instr.alloc
  rw [Sem.run_bind,Je hzv]
  exact hr
 ·exact h.elim

/-! #### slice literals -/
def Kk:Nat→List (Nat × Operand)→Option (List Operand)
 | _,[]=>some []
 | i,(j,x)::r=>bif Nat.beq i j then (Kk (i + 1) r).map (x::·) else none
theorem Kb:∀ (ps:List (Nat × Operand)) (i:Nat) (xs:List Operand),Kk i ps=some xs→ps=(xs.zipIdx i).map fun x=>(x.2,x.1)
 | [],i,xs,h=>by cases h;rfl
 | (j,x)::r,i,xs,h=>by
   unfold Kk at h
   cases hb:Nat.beq i j with
   | false=>rw [hb] at h;cases h
   | true =>
     have:=Nat.eq_of_beq_eq_true hb
     subst this
     rw [hb] at h
     simp only [cond_true,Option.map_eq_some_iff] at h
     obtain ⟨ys,hy,rfl⟩:=h
     rw [Kb r (i + 1) ys hy];simp [List.zipIdx_cons]

/-- Of a slice type: its element's type, the element's cells and bytes. -/
def slq (P:Program) (t:TypeId):Option (TypeId × Nat × Nat) :=
 match P.underlying t with
 | some (.slice e)=>match P.info? e with
   | some i=>match i.zero with
     | some z=>if z.cells.size == i.size && (ofV z).solid then some (e,i.size,i.bytes) else none
     | none=>none
   | none=>none
 | _=>none
theorem Fv {P:Program} {t e n b:Nat} (h:slq P t=some (e,n,b)):∃ i z,P.underlying t=some (.slice e)∧P.info? e=some i∧i.zero=some z∧i.size=n∧i.bytes=b∧z.cells.size=n∧(ofV z).solid=true:=by
 unfold slq at h
 split at h
 ·rename_i e' hu
  split at h
  ·rename_i i hi
   split at h
   ·rename_i z hz
    split at h
    ·rename_i hc
     simp at h hc
     obtain ⟨rfl,rfl,rfl⟩:=h
     exact ⟨i,z,hu,hi,hz,rfl,rfl,hc.1,hc.2⟩
    ·cases h
   ·cases h
  ·cases h
 ·cases h

/-- Every one of the values is solid and has n cells. -/
def G9 (n:Nat):List PVal→Prop
 | []=>True
 | p::r=>p.solid=true∧p.cells.length=n∧G9 n r
theorem Hx {n:Nat}:∀ {ps:List PVal},G9 n ps→∀ p∈ps,p.solid=true∧p.cells.length=n
 | [],_,p,hp=>by cases hp
 | q::r,h,p,hp=>by
   rcases List.mem_cons.1 hp with rfl | hp
   ·exact ⟨h.1,h.2.1⟩
   ·exact Hx h.2.2 p hp
theorem Yy {n:Nat}:∀ {ps:List PVal},(∀ p∈ps,p.solid=true∧p.cells.length=n)→G9 n ps
 | [],_=>trivial
 | q::_,h=>⟨(h q List.mem_cons_self).1,(h q List.mem_cons_self).2,Yy fun p hp=>h p (List.mem_cons_of_mem _ hp)⟩

def C7 (C:Ctx) (t len:Nat) (parts:Array (Nat × Operand)) (σ:St) (K:PVal→St→Prop):Prop :=
 match slq C.P t,Kk 0 parts.toList with
 | some (e,n,_),some xs=>xs.length=len∧len * n≤16777216∧0 < n∧G9 n (xs.map (val σ.e))∧K (.ref (.l σ.l.length) 0 len) (B8 σ (.row (xs.map (val σ.e)) n e))
 | _,_=>False

theorem Xi (place:Nat→Option (Nat × Nat)) (cells:Array Value):Instr.fill place cells []=some cells:=rfl

theorem rep_new {V:View} {r:Ref} {cells:Array Value} {ty size len:Nat} (h:len * size≤cells.size):Rep (V.alloc r (.cells cells ty) size) (.ref r 0 len) (.slice (some ⟨V.w.heap.size,0,none⟩) len len):=by
 have:Rep (V.alloc r (.cells cells ty) size) (.ref r 0 len) (.slice (some ⟨V.w.heap.size,0 + 0 * size,none⟩) len len) :=
  .ref (Az _ _ _) (Nat.le_refl _) ⟨ty,cells.size,by
   show (match (V.w.alloc (.cells cells ty)).heap[V.w.heap.size]? with
    | some (.cells c elem _)=>some (elem,c.size)
    | _=>none)=_
   rw [Dg],by simpa using h⟩
 simpa using this

theorem Nd {C:Ctx} {n:Nat} {V:View} {σ:St} {a:Act} (hR:Rel C n V σ a) {t len:Nat} {parts:Array (Nat × Operand)} {K:PVal→St→Prop} (h:C7 C t len parts σ K) :
  ∃ V' σ' q u,(Instr.buildSlice t len (parts.map fun (i,x)=>(i,a.eval x))).run C.P V.w=.ok u V'.w∧Went C V σ V' σ'∧Rep V' q u∧K q σ':=by
 unfold C7 at h
 split at h
 ·rename_i e m b xs hq hd
  obtain ⟨hlen,hsmall,hpos,hok,hK⟩:=h
  obtain ⟨i,z,hu,hi,hz,hsz,_⟩:=Fv hq
  have hparts:=Kb _ _ _ hd
  obtain ⟨hv,hW⟩:=On hR.mem e m hpos (xs.map (val σ.e)) (xs.map a.eval) (by simp) (Hx hok) (fun j p hp=>by
   simp only [List.getElem?_map,Option.map_eq_some_iff] at hp
   obtain ⟨x,hx,rfl⟩:=hp
   have:(xs.map a.eval).getD j undef=a.eval x:=by simp [List.getD_eq_getElem?_getD,hx]
   rw [this];exact Bp hR x)
  have hflat:(List.flatMap (fun v=>v.cells.toList) (xs.map a.eval)).length=len * m:=by rw [Hg hv,List.length_map,hlen]
  refine ⟨_,_,_,.slice (some ⟨V.w.heap.size,0,none⟩) len len,?_,hW,rep_new (by simp only [List.size_toArray,hflat];exact Nat.le_refl _),hK⟩
  have hp2:(parts.map fun (i,x)=>(i,a.eval x)).toList=((xs.map a.eval).zipIdx 0).map fun x=>(x.2,x.1):=by
   rw [Array.toList_map,hparts,List.map_map,List.zipIdx_map,List.map_map]
   rfl
  by_cases h0:len * m=0
  ·have hl0:len=0:=by rcases Nat.mul_eq_zero.1 h0 with h | h;exact h;omega
   have hx0:xs=[]:=List.length_eq_zero_iff.1 (by omega)
   subst hx0
   have hp0:parts=#[]:=by
    apply Array.toList_inj.1
    rw [hparts];rfl
   subst hp0
   simp [Instr.buildSlice,run_underlying hu,sizeOf,typeInfo,hi,hl0,Xi,newRow,View.alloc]
   congr 2
   apply Array.ext_getElem?
   intro j
   simp
  ·rw [Go.run_buildSlice V.w t e len _ (List.flatMap (fun v=>v.cells.toList) (xs.map a.eval)).toArray i z hu hi hz (by rw [hsz];omega) (by rw [hsz];exact h0) ?_]
   ·rfl
   ·rw [hsz,hp2]
    exact Great.fill_whole hpos _ _ hv (by simp [hlen])
 ·exact h.elim
end Go.V
namespace Go.V
open Go

variable {C:Ctx} {V:View} {σ:St}

/-! ### fields -/
/-- Of a struct's field: its place, whether it is a struct or an array itself, its cells. -/
def fq (P:Program) (s f:Nat):Option (Nat × Bool × Nat) :=
 match P.underlying s with
 | some (.struct fs)=>match fs[f]? with
   | some fd=>match tyq P fd.type with
     | some (ag,n)=>some (fd.offset,ag,n)
     | none=>none
   | none=>none
 | _=>none
theorem Aah {P:Program} {s f off n:Nat} {ag:Bool} (h:fq P s f=some (off,ag,n)):∃ fs fd,P.underlying s=some (.struct fs)∧fs[f]? = some fd∧tyq P fd.type=some (ag,n)∧fd.offset=off:=by
 unfold fq at h
 split at h
 ·rename_i fs hu
  split at h
  ·rename_i fd hf
   split at h
   ·rename_i ag' n' ht
    simp at h
    obtain ⟨rfl,rfl,rfl⟩:=h
    exact ⟨fs,fd,hu,hf,ht,rfl⟩
   ·cases h
  ·cases h
 ·cases h

def Cw (C:Ctx) (s:TypeId) (p:PVal) (f:Nat) (σ:St) (K:PVal→Prop):Prop :=
 match fq C.P s f with
 | some (off,_,n)=>0 < n∧match p with
   | .ptr r i o=>match Ao σ.o σ.l r with
     | some (.row _ _ _)=>K (.ptr r i (o + off))
     | _=>False
   | .eptr x o=>K (.eptr x (o + off))
   | .gptr g o=>K (.gptr g (o + off))
   | _=>False
 | none=>False

theorem La {P:Program} {s f off n:Nat} {ag:Bool} (h:fq P s f=some (off,ag,n)) (hn:0 < n) (b o:Nat) (w:World) :
  (Instr.fieldAt s (.pointer (some ⟨b,o,none⟩)) f).run P w=.ok (.pointer (some ⟨b,o + off,none⟩)) w:=by
 obtain ⟨fs,fd,hu,hf,ht,hoff⟩:=Aah h
 obtain ⟨d,_,_,hi⟩:=Jn ht
 unfold Instr.fieldAt
 rw [Sem.run_bind,run_underlying hu]
 simp only [Result.andThen_ok,hf,Instr.sureAddr,Sem.run_bind,Sem.run_pure,fieldPlace,F3 hi]
 rw [Sem.run_ite,if_neg (by omega)]
 simp only [Sem.run_pure,Result.andThen_ok,Addr.add_mid,hoff]

theorem Oh (hM:MemRel C V (Ao σ.o σ.l)) {s f:Nat} {p:PVal} {v:Value} (hp:Rep V p v) {K:PVal→Prop} (h:Cw C s p f σ K) :
  ∃ u q,(Instr.fieldAt s v f).run C.P V.w=.ok u V.w∧Rep V q u∧K q:=by
 unfold Cw at h
 split at h
 ·rename_i off ag n hq
  obtain ⟨hn,h⟩:=h
  split at h
  ·split at h
   ·rename_i hB
    cases hp with
    | ptr hl =>
      refine ⟨_,_,La hq hn _ _ _,?_,h⟩
      rw [Nat.add_assoc];exact .ptr hl
    | ptrDead hd _ =>
      have:=hM.blk _ _ hB
      rcases this with ⟨h1,_⟩ | ⟨_,_,_,_,h1,_⟩ <;> rw [h1] at hd <;> cases hd
   ·exact h.elim
  ·cases hp with
   | eptr g hown hb hc hx =>
     refine ⟨_,_,La hq hn _ _ _,?_,h⟩
     rw [Nat.add_assoc];exact .eptr g hown hb hc hx
  ·cases hp with
   | gptr=>exact ⟨_,_,La hq hn _ _ _,.gptr,h⟩
  ·exact h.elim
 ·exact h.elim

/-- A part of a value's cells. -/
theorem Rg {t:TypeId} {ag:Bool} {n off:Nat} (ht:tyq C.P t=some (ag,n)) {cs:List PVal} {v:Value} (hp:Rep V (.agg cs) v) {K:PVal→Prop} (h:C6 ag n cs off K) :
  ∃ vs u q,v=.agg vs∧(part t vs off).run C.P V.w=.ok u V.w∧Rep V q u∧K q:=by
 obtain ⟨d,hu,hd,hi⟩:=Jn ht
 cases hp with
 | agg hl h1 h2 =>
   rename_i vs
   cases ag with
   | true =>
     obtain ⟨hle,hK⟩:=h
     refine ⟨vs,.agg (vs.extract off (off + n)),_,rfl,?_,.agg ?_ ?_ ?_,hK⟩
     ·unfold part
      rw [Sem.run_bind,Ly hu,hd]
      simp only [Result.andThen_ok,if_true,Sem.run_bind,F3 hi,Sem.run_pure]
     ·simp;omega
     ·intro j hj
      simp at hj
      have:=h1 (off + j) (by omega)
      rw [Array.getD_eq_getD_getElem?] at this ⊢
      rw [Array.getElem?_extract,if_pos (by omega)]
      exact this
     ·intro j c hc
      rw [List.getElem?_take] at hc
      split at hc
      ·rw [List.getElem?_drop] at hc
       have:=h2 _ _ hc
       rw [Array.getD_eq_getD_getElem?] at this ⊢
       have hlt:off + j < cs.length:=(List.getElem?_eq_some_iff.1 hc).1
       rw [Array.getElem?_extract,if_pos (by omega)]
       exact this
      ·cases hc
   | false =>
     unfold C6 at h
     cases hq:cs[off]? with
     | none=>simp [hq] at h
     | some c =>
       simp only [hq] at h
       have hlt:off < cs.length:=(List.getElem?_eq_some_iff.1 hq).1
       refine ⟨vs,vs.getD off undef,c,rfl,?_,h2 _ _ hq,h⟩
       unfold part
       rw [Sem.run_bind,Ly hu,hd]
       have:vs[off]? = some (vs.getD off undef):=by rw [Array.getD_eq_getD_getElem?,Array.getElem?_eq_getElem (by omega)];rfl
       simp only [Result.andThen_ok,Bool.false_eq_true,if_false,this,Sem.run_pure]

def G1 (C:Ctx) (t:TypeId) (p:PVal) (f:Nat) (K:PVal→Prop):Prop :=
 match fq C.P t f with
 | some (off,ag,n)=>match p with
   | .agg cs=>C6 ag n cs off K
   | _=>False
 | none=>False
theorem T6 {t f:Nat} {p:PVal} {v:Value} (hp:Rep V p v) {K:PVal→Prop} (h:G1 C t p f K) :
  ∃ u q,(Instr.field t v f).run C.P V.w=.ok u V.w∧Rep V q u∧K q:=by
 unfold G1 at h
 split at h
 ·rename_i off ag n hq
  split at h
  ·obtain ⟨fs,fd,hu,hf,ht,rfl⟩:=Aah hq
   obtain ⟨vs,u,q,rfl,hr,hq',hK⟩:=Rg ht hp h
   refine ⟨u,q,?_,hq',hK⟩
   unfold Instr.field
   rw [Sem.run_bind,run_underlying hu]
   simp only [Result.andThen_ok,hf,asAgg,Sem.run_bind,Sem.run_pure,hr]
  ·exact h.elim
 ·exact h.elim

/-! ### indices -/
def gi (xs:List PVal) (i:Nat):PVal:=xs.getD i .any
def gb (s:List UInt8) (i:Nat):Int:=((s.getD i 0).toNat:Int)

/-- Of a pointer's or value's array type: its length and its element's type. -/
def aq (P:Program) (t:TypeId):Option (Nat × TypeId) :=
 match P.underlying t with
 | some (.array n e)=>some (n,e)
 | _=>none

def Cv (C:Ctx) (t:TypeId) (p ix:PVal) (σ:St) (K:PVal→Prop):Prop :=
 match ix with
 | .int _ i=>match p with
   | .ref r off len=>match slq C.P t,Ao σ.o σ.l r with
     | some (_,n,_),some (.row _ size _)=>n=size∧0≤i∧i < len∧K (.ptr r (off + i.toNat) 0)
     | _,_=>False
   | .slc xs=>match slq C.P t with
     | some (_,n,_)=>0≤i∧i < xs.length∧(gi xs i.toNat).cells.length=n∧K (.eptr (gi xs i.toNat) 0)
     | none=>False
   | .gptr g off=>match aq C.P t with
     | some (n,e)=>match tyq C.P e with
       | some (_,m)=>0≤i∧i < n∧K (.gptr g (off + i.toNat * m))
       | none=>False
     | none=>False
   | _=>False
 | _=>False

theorem aq_spec {P:Program} {t n e:Nat} (h:aq P t=some (n,e)):P.underlying t=some (.array n e):=by
 unfold aq at h
 split at h
 ·simp at h;obtain ⟨rfl,rfl⟩:=h;assumption
 ·cases h
theorem Nl {P:Program} {t n e m:Nat} {ag:Bool} (h:aq P t=some (n,e)) (hm:tyq P e=some (ag,m)) (b o:Nat) (k:IntKind) (i:Int) (h0:0≤i) (h1:i < n) (w:World) :
  (Instr.indexAt t (.pointer (some ⟨b,o,none⟩)) (.int k i)).run P w=.ok (.pointer (some ⟨b,o + i.toNat * m,none⟩)) w:=by
 obtain ⟨_,_,_,hsz⟩:=Jn hm
 unfold Instr.indexAt
 simp [asIntOf,run_underlying (aq_spec h),Instr.sureAddr,h0,h1,F3 hsz,Addr.add_mid]

theorem Ij {P:Program} {t e:TypeId} {n b':Nat} (h:slq P t=some (e,n,b')) (b o len cap:Nat) (k:IntKind) (i:Int) (h0:0≤i) (h1:i < len) (w:World) :
  (Instr.indexAt t (.slice (some ⟨b,o,none⟩) len cap) (.int k i)).run P w=.ok (.pointer (some ⟨b,o + i.toNat * n,none⟩)) w:=by
 obtain ⟨ii,z,hu,hi,_,hsz,_⟩:=Fv h
 have hs:=F3 (P:=P) (t:=e) (n:=n) (by simp [hi,hsz]) w
 unfold Instr.indexAt
 simp [asIntOf,run_underlying hu,h0,h1,hs,Addr.add_mid]

theorem Og (hM:MemRel C V (Ao σ.o σ.l)) {t:Nat} {p ix:PVal} {v y:Value} (hp:Rep V p v) (hi:Rep V ix y) {K:PVal→Prop} (h:Cv C t p ix σ K) :
  ∃ u q,(Instr.indexAt t v y).run C.P V.w=.ok u V.w∧Rep V q u∧K q:=by
 unfold Cv at h
 split at h
 ·rename_i k i
  cases hi
  split at h
  ·rename_i r off len
   split at h
   ·rename_i e n b elems size ty hq hB
    obtain ⟨rfl,h0,h1,hK⟩:=h
    cases hp with
    | refDead hd _ =>
      have:=hM.blk _ _ hB
      rcases this with ⟨h1,_⟩ | ⟨_,_,_,_,h1,_⟩ <;> rw [h1] at hd <;> cases hd
    | refEmpty _=>simp at h1;omega
    | ref hl hcap hsz =>
      rename_i cap bb base size'
      have hsame:size'=n:=by
       have:=hM.blk _ _ hB
       rcases this with ⟨h1,_⟩ | ⟨_,_,_,_,h1,_⟩ <;> rw [h1] at hl <;> cases hl
       rfl
      subst hsame
      refine ⟨_,_,Ij hq _ _ _ _ _ _ h0 h1 _,?_,hK⟩
      have:Rep V (.ptr r (off + i.toNat) 0) (.pointer (some ⟨bb,base + (off + i.toNat) * size' + 0,none⟩)):=.ptr hl
      rw [Nat.add_mul,← Nat.add_assoc] at this
      exact this
   ·exact h.elim
  ·rename_i xs
   split at h
   ·rename_i e n b hq
    obtain ⟨h0,h1,hn,hK⟩:=h
    have hlt:i.toNat < xs.length:=by omega
    have hgi:xs[i.toNat]? = some (gi xs i.toNat):=by simp [gi,List.getD_eq_getElem?_getD,List.getElem?_eq_getElem hlt]
    cases hp with
    | slcEmpty=>simp at h1;omega
    | slc size f hown hb hcap hc hs hx =>
      have hsz:=hs _ _ hgi
      obtain rfl:size=n:=by omega
      refine ⟨_,_,Ij hq _ _ _ _ _ _ h0 h1 _,?_,hK⟩
      have hle:i.toNat * size + size≤xs.length * size:=by rw [←Nat.succ_mul];exact Nat.mul_le_mul_right _ hlt
      have:=Rep.eptr (V:=V) (x:=gi xs i.toNat) (off:=0) (b:=_) (o:=_) (fun j=>f (i.toNat * size + j)) hown hb (fun m hm=>by
       have:=hc (i.toNat * size + m) (by omega)
       rw [←Nat.add_assoc] at this;exact this) (fun j c hcj=>hx _ _ j c hgi hcj)
      exact this
   ·exact h.elim
  ·split at h
   ·rename_i n e ha
    split at h
    ·rename_i ag m ht
     obtain ⟨h0,h1,hK⟩:=h
     cases hp
     exact ⟨_,_,Nl ha ht _ _ _ _ h0 h1 _,.gptr,hK⟩
    ·exact h.elim
   ·exact h.elim
  ·exact h.elim
 ·exact h.elim

def G0 (C:Ctx) (t:TypeId) (p ix:PVal) (K:PVal→Prop):Prop :=
 match ix with
 | .int _ i=>match p with
   | .str s=>(C.P.underlying t=some .string)∧0≤i∧i < s.length∧K (.int .u8 (gb s i.toNat))
   | .agg cs=>match aq C.P t with
     | some (n,e)=>match tyq C.P e with
       | some (ag,m)=>0≤i∧i < n∧C6 ag m cs (i.toNat * m) K
       | none=>False
     | none=>False
   | _=>False
 | _=>False
theorem T5 {t:Nat} {p ix:PVal} {v y:Value} (hp:Rep V p v) (hi:Rep V ix y) {K:PVal→Prop} (h:G0 C t p ix K) :
  ∃ u q,(Instr.index t v y).run C.P V.w=.ok u V.w∧Rep V q u∧K q:=by
 unfold G0 at h
 split at h
 ·rename_i k i
  cases hi
  split at h
  ·rename_i s
   obtain ⟨hu,h0,h1,hK⟩:=h
   cases hp
   refine ⟨.int .u8 (gb s i.toNat),_,?_,.int,hK⟩
   have hlt:i.toNat < s.length:=by omega
   have hb:(⟨⟨s⟩⟩:ByteArray)[i.toNat]? = some s[i.toNat]:=by
    have:i.toNat < (⟨⟨s⟩⟩:ByteArray).size:=by simpa [ByteArray.size] using hlt
    rw [getElem?_pos (⟨⟨s⟩⟩:ByteArray) i.toNat this]
    rfl
   unfold Instr.index
   simp [asIntOf,run_underlying hu,h0,hb,gb,List.getD_eq_getElem?_getD,hlt]
  ·rename_i cs
   split at h
   ·rename_i n e ha
    split at h
    ·rename_i ag m ht
     obtain ⟨h0,h1,hl⟩:=h
     obtain ⟨vs,u,q,rfl,hr,hq',hK⟩:=Rg ht hp hl
     obtain ⟨_,_,_,hsz⟩:=Jn ht
     have hu:C.P.underlying t=some (.array n e):=by
      unfold aq at ha
      split at ha
      ·simp at ha;obtain ⟨rfl,rfl⟩:=ha;assumption
      ·cases ha
     refine ⟨u,q,?_,hq',hK⟩
     unfold Instr.index
     simp [asIntOf,run_underlying hu,h0,h1,F3 hsz,hr]
    ·exact h.elim
   ·exact h.elim
  ·exact h.elim
 ·exact h.elim

/-! ### slices of strings and slices -/
def bnd (x:Option PVal) (d:Nat):Option Int :=
 match x with
 | none=>some d
 | some (.int _ i)=>some i
 | _=>none

def Hj (C:Ctx) (t:TypeId) (p:PVal) (lo hi:Option PVal) (σ:St) (K:PVal→Prop):Prop :=
 match p with
 | .str s=>C.P.underlying t=some .string∧match bnd lo 0,bnd hi s.length with
   | some l,some h=>0≤l∧l≤h∧h≤s.length∧K (.str ((s.drop l.toNat).take (h.toNat - l.toNat)))
   | _,_=>False
 | .slc xs=>match slq C.P t,bnd lo 0,bnd hi xs.length with
   | some (_,n,_),some l,some h=>0≤l∧l≤h∧h≤xs.length∧(∀ x∈xs,x.cells.length=n)∧K (.slc ((xs.drop l.toNat).take (h.toNat - l.toNat)))
   | _,_,_=>False
 | .ref r off len=>match slq C.P t,bnd lo 0,bnd hi len,Ao σ.o σ.l r with
   | some (_,n,_),some l,some h,some (.row _ size _)=>n=size∧0≤l∧l≤h∧h≤len∧K (.ref r (off + l.toNat) (h.toNat - l.toNat))
   | _,_,_,_=>False
 | .nils=>match slq C.P t,bnd lo 0,bnd hi 0 with
   | some _,some l,some h=>l=0∧h=0∧K .nils
   | _,_,_=>False
 | _=>False

theorem Jy {P:Program} (isSlice:Bool) (len cap:Nat) (hcap:len≤cap) {lo hi:Option PVal} {lo' hi':Option Value} {l h:Int}
  (hl:bnd lo 0=some l) (hh:bnd hi len=some h) (rl:∀ p,lo=some p→∃ v,lo'=some v∧Rep V p v) (nl:lo=none→lo'=none)
  (rh:∀ p,hi=some p→∃ v,hi'=some v∧Rep V p v) (nh:hi=none→hi'=none) (h0:0≤l) (h1:l≤h) (h2:h≤len) (w:World) :
  (Instr.sliceBounds isSlice len cap lo' hi' none).run P w=.ok (l.toNat,h.toNat,cap) w:=by
 have hhc:h≤cap:=by omega
 have eh:(h.toNat:Int)=h:=Int.toNat_of_nonneg (by omega)
 have key:∀ (k:IntKind) (i:Int) (y:Nat) (code:BoundsCode),0≤i→i≤y→(Instr.sliceBound (.int k i) y code).run P w=.ok i.toNat w:=fun k i y code a b=>by
  simp [Instr.sliceBound,asIntOf,a,b]
 cases hi with
 | none =>
   simp only [bnd,Option.some.injEq] at hh
   subst hh
   rw [nh rfl]
   cases lo with
   | none =>
     simp only [bnd,Option.some.injEq] at hl
     subst hl
     rw [nl rfl]
     simp [Instr.sliceBounds]
   | some p =>
     obtain ⟨v,hv,hr⟩:=rl p rfl
     cases p <;> simp only [bnd,Option.some.injEq,reduceCtorEq] at hl
     subst hl
     cases hr
     rw [hv]
     simp [Instr.sliceBounds,key _ _ _ _ h0 h1]
 | some q =>
   obtain ⟨v,hv,hr⟩:=rh q rfl
   cases q <;> simp only [bnd,Option.some.injEq,reduceCtorEq] at hh
   subst hh
   cases hr
   rw [hv]
   cases lo with
   | none =>
     simp only [bnd,Option.some.injEq] at hl
     subst hl
     rw [nl rfl]
     simp [Instr.sliceBounds,key _ _ _ _ (Int.le_trans h0 h1) hhc]
   | some p =>
     obtain ⟨v',hv',hr'⟩:=rl p rfl
     cases p <;> simp only [bnd,Option.some.injEq,reduceCtorEq] at hl
     subst hl
     cases hr'
     rw [hv']
     simp [Instr.sliceBounds,key _ _ _ _ (Int.le_trans h0 h1) hhc,key _ _ _ _ h0 (show _≤((Int.toNat _:Nat):Int) by rw [eh];exact h1)]

theorem Tz (hM:MemRel C V (Ao σ.o σ.l)) {t:Nat} {p:PVal} {v:Value} (hp:Rep V p v) {lo hi:Option PVal} {lo' hi':Option Value}
  (rl:∀ p,lo=some p→∃ v,lo'=some v∧Rep V p v) (nl:lo=none→lo'=none)
  (rh:∀ p,hi=some p→∃ v,hi'=some v∧Rep V p v) (nh:hi=none→hi'=none) {K:PVal→Prop} (h:Hj C t p lo hi σ K) :
  ∃ u q,(Instr.sliceAt t v lo' hi' none).run C.P V.w=.ok u V.w∧Rep V q u∧K q:=by
 have hslq:∀ e n b,slq C.P t=some (e,n,b)→C.P.underlying t=some (.slice e)∧∀ w,(sizeOf e).run C.P w=.ok n w:=fun e n b hq=>by
  obtain ⟨ii,z,hu,hi,_,hsz,_⟩:=Fv hq
  exact ⟨hu,F3 (by simp [hi,hsz])⟩
 unfold Hj at h
 split at h
 ·rename_i s
  obtain ⟨hu,h⟩:=h
  split at h
  ·rename_i l hh hl1 hh1
   obtain ⟨h0,h1,h2,hK⟩:=h
   cases hp
   have hb:=Jy (P:=C.P) (V:=V) false s.length s.length (Nat.le_refl _) hl1 hh1 rl nl rh nh h0 h1 h2 V.w
   refine ⟨.string ((⟨⟨s⟩⟩:ByteArray).extract l.toNat hh.toNat),_,?_,?_,hK⟩
   ·unfold Instr.sliceAt
    have hsz:(⟨⟨s⟩⟩:ByteArray).size=s.length:=rfl
    simp [run_underlying hu,Instr.slice,hsz,hb]
   ·have e:(⟨⟨s⟩⟩:ByteArray).extract l.toNat hh.toNat=⟨⟨(s.drop l.toNat).take (hh.toNat - l.toNat)⟩⟩:=by
     have:=Lib.extract_data (⟨⟨s⟩⟩:ByteArray) l.toNat hh.toNat
     generalize (⟨⟨s⟩⟩:ByteArray).extract l.toNat hh.toNat=z at this
     obtain ⟨⟨z⟩⟩:=z
     simp at this
     rw [this]
    rw [e];exact .str
  ·exact h.elim
 ·rename_i xs
  split at h
  ·rename_i e n b l hh hq hl1 hh1
   obtain ⟨hu,hsz⟩:=hslq _ _ _ hq
   obtain ⟨h0,h1,h2,hall,hK⟩:=h
   have run:∀ (a:Option Addr) (cap:Nat),xs.length≤cap→(Instr.sliceAt t (.slice a xs.length cap) lo' hi' none).run C.P V.w =
     .ok (.slice (if cap=l.toNat then a else a.map (·.add (l.toNat * n))) (hh.toNat - l.toNat) (cap - l.toNat)) V.w:=fun a cap hc=>by
    have hb:=Jy (P:=C.P) (V:=V) true xs.length cap hc hl1 hh1 rl nl rh nh h0 h1 h2 V.w
    unfold Instr.sliceAt
    simp [run_underlying hu,Instr.slice,hb,hsz]
   have hlen:((xs.drop l.toNat).take (hh.toNat - l.toNat)).length=hh.toNat - l.toNat:=by simp;omega
   cases hp with
   | slcEmpty =>
     simp at h2
     have e1:l.toNat=0:=by omega
     have e2:hh.toNat=0:=by omega
     refine ⟨_,_,run _ _ (by simp),?_,hK⟩
     simp only [e1,e2,List.drop_zero,List.take_nil,Nat.sub_zero]
     exact .slcEmpty
   | slc size f hown hb hcap hc hs hx =>
     rename_i bb o cap
     refine ⟨_,_,run _ _ hcap,?_,hK⟩
     by_cases hz:hh.toNat - l.toNat=0
     ·have:(xs.drop l.toNat).take (hh.toNat - l.toNat)=[]:=by rw [hz];simp
      rw [this,hz];exact .slcEmpty
     ·rw [if_neg (by omega)]
      have hne:l.toNat < xs.length:=by omega
      have hsn:size=n:=by
       rw [←hs l.toNat _ (List.getElem?_eq_getElem hne)];exact hall _ (List.getElem_mem hne)
      subst hsn
      have hle:(l.toNat + (hh.toNat - l.toNat)) * size≤xs.length * size:=Nat.mul_le_mul_right _ (by omega)
      rw [Nat.add_mul] at hle
      have:=Rep.slc (V:=V) (xs:=(xs.drop l.toNat).take (hh.toNat - l.toNat)) (b:=bb) (off:=o + l.toNat * size) (cap:=cap - l.toNat) size (fun m=>f (l.toNat * size + m)) hown hb (by omega)
       (fun m hm=>by
        have:=hc (l.toNat * size + m) (by rw [hlen] at hm;omega)
        rw [←Nat.add_assoc] at this;exact this)
       (fun i x hxi=>by
        rw [List.getElem?_take] at hxi
        split at hxi
        ·rw [List.getElem?_drop] at hxi;exact hs _ x hxi
        ·cases hxi)
       (fun i x j c hxi hcj=>by
        rw [List.getElem?_take] at hxi
        split at hxi
        ·rw [List.getElem?_drop] at hxi
         have:=hx _ x j c hxi hcj
         rw [Nat.add_mul,Nat.add_assoc] at this
         exact this
        ·cases hxi)
      rw [hlen] at this
      simpa [Addr.add_mid] using this
  ·exact h.elim
 ·rename_i r off len
  split at h
  ·rename_i e n b l hh elems size ty hq hl1 hh1 hB
   obtain ⟨hu,hsz⟩:=hslq _ _ _ hq
   obtain ⟨rfl,h0,h1,h2,hK⟩:=h
   have run:∀ (a:Option Addr) (cap:Nat),len≤cap→(Instr.sliceAt t (.slice a len cap) lo' hi' none).run C.P V.w =
     .ok (.slice (if cap=l.toNat then a else a.map (·.add (l.toNat * n))) (hh.toNat - l.toNat) (cap - l.toNat)) V.w:=fun a cap hc=>by
    have hb:=Jy (P:=C.P) (V:=V) true len cap hc hl1 hh1 rl nl rh nh h0 h1 h2 V.w
    unfold Instr.sliceAt
    simp [run_underlying hu,Instr.slice,hb,hsz]
   have hloc:V.loc r=.none∨∃ b base,V.loc r=.at b base n:=by
    rcases hM.blk _ _ hB with ⟨h1,_⟩ | ⟨b,base,_,_,h1,_⟩
    ·exact .inl h1
    ·exact .inr ⟨b,base,h1⟩
   cases hp with
   | refDead hd _=>rcases hloc with h1 | ⟨_,_,h1⟩ <;> rw [h1] at hd <;> cases hd
   | refEmpty hl =>
     have e1:l.toNat=0:=by omega
     have e2:hh.toNat=0:=by omega
     refine ⟨_,_,run _ _ (by omega),?_,hK⟩
     simp only [e1,e2,Nat.sub_zero]
     exact .refEmpty (hloc.imp id fun ⟨b,base,h⟩=>⟨b,base,n,h⟩)
   | ref hl hcap hs =>
     rename_i cap bb base size'
     have hsame:size'=n:=by
      rcases hloc with h1 | ⟨_,_,h1⟩ <;> rw [h1] at hl <;> cases hl
      rfl
     subst hsame
     refine ⟨_,_,run _ _ hcap,?_,hK⟩
     by_cases hz:cap=l.toNat
     ·have e2:hh.toNat - l.toNat=0:=by omega
      rw [if_pos hz,e2,hz,Nat.sub_self]
      exact .refEmpty (.inr ⟨_,_,_,hl⟩)
     ·rw [if_neg hz]
      obtain ⟨ty',m,hs1,hs2⟩:=hs
      have:=Rep.ref (V:=V) (r:=r) (off:=off + l.toNat) (len:=hh.toNat - l.toNat) (cap:=cap - l.toNat) hl (by omega) ⟨ty',m,hs1,by
       rw [show off + l.toNat + (cap - l.toNat)=off + cap by omega];exact hs2⟩
      rw [Nat.add_mul,← Nat.add_assoc] at this
      simpa [Addr.add_mid] using this
  ·exact h.elim
 ·split at h
  ·rename_i e l hh hq hl1 hh1
   obtain ⟨e,n,b⟩:=e
   obtain ⟨hu,hsz⟩:=hslq _ _ _ hq
   obtain ⟨rfl,rfl,hK⟩:=h
   cases hp
   have hb:=Jy (P:=C.P) (V:=V) true 0 0 (Nat.le_refl _) hl1 hh1 rl nl rh nh (by omega) (by omega) (by simp) V.w
   refine ⟨.slice none 0 0,_,?_,.nils,hK⟩
   unfold Instr.sliceAt
   simp [run_underlying hu,Instr.slice,hb,hsz]
  ·exact h.elim
 ·exact h.elim

/-! ### maps with strings as keys -/
/-- Of a map type with strings as keys: the zero value of its elements. -/
def lkq (P:Program) (t:TypeId):Option PVal :=
 match P.underlying t with
 | some (.map k e)=>match P.underlying k with
   | some .string=>tz P e
   | _=>none
 | _=>none
def keyS:PVal→Bool
 | .str _=>true
 | _=>false
def isK (s:List UInt8):PVal→Bool
 | .str k=>decide (s=k)
 | _=>false
/-- Is the key there? -/
def Gj (s:List UInt8):List PVal→Bool
 | []=>false
 | k::ks=>isK s k || Gj s ks
/-- What is found, or else the zero value. -/
def Gi (s:List UInt8) (z:PVal):List PVal→List PVal→PVal
 | k::ks,v::vs=>bif isK s k then v else Gi s z ks vs
 | _,_=>z
/-- Keys that are strings, no two alike. -/
def J4:List PVal→Bool
 | []=>true
 | .str s::ks=>!Gj s ks && J4 ks
 | _::_=>false
def Fg (C:Ctx) (t:TypeId) (p ix:PVal) (ok:Bool) (K:PVal→Prop):Prop :=
 match ix with
 | .str s=>match p with
   | .fmap ks vs=>match lkq C.P t with
     | some z=>J4 ks=true∧K (bif ok then .tuple [Gi s z ks vs,.bool (Gj s ks)] else Gi s z ks vs)
     | none=>False
   | _=>False
 | _=>False
theorem lkq_spec {P:Program} {t:TypeId} {z:PVal} (h:lkq P t=some z):∃ k e zv,P.underlying t=some (.map k e)∧P.underlying k=some .string∧(P.info? e).bind (·.zero)=some zv∧ofV zv=z:=by
 unfold lkq at h
 split at h
 ·rename_i k e hu
  split at h
  ·rename_i hk
   unfold tz at h
   simp only [Option.map_eq_some_iff] at h
   obtain ⟨zv,h1,h2⟩:=h
   exact ⟨k,e,zv,hu,hk,h1,h2⟩
  ·cases h
 ·cases h
theorem Rm {s:List UInt8}:∀ {ks:List PVal} {j:Nat},ks[j]? = some (PVal.str s)→Gj s ks=true
 | k::ks,0,h=>by simp at h;subst h;simp [Gj,isK]
 | k::ks,j + 1,h=>by simp [Gj,Rm (show ks[j]? = some (PVal.str s) by simpa using h)]
theorem Tj {s:List UInt8}:∀ {ks:List PVal},Gj s ks=true→∃ j:Nat,ks[j]? = some (PVal.str s)
 | [],h=>by simp [Gj] at h
 | k::ks,h=>by
   simp only [Gj,Bool.or_eq_true] at h
   rcases h with h | h
   ·cases k <;> simp [isK] at h
    subst h;exact ⟨0,rfl⟩
   ·obtain ⟨j,hj⟩:=Tj h;exact ⟨j + 1,by simpa using hj⟩
theorem Rp:∀ {ks:List PVal},J4 ks=true→∀ (j:Nat) (c:PVal),ks[j]? = some c→∃ s,c=PVal.str s
 | [],_,j,c,h=>by simp at h
 | k::ks,hk,j,c,h=>by
   cases k <;> simp [J4] at hk
   cases j with
   | zero=>simp at h;exact ⟨_,h.symm⟩
   | succ j=>exact Rp hk.2 j c (by simpa using h)
theorem W3 {s:List UInt8} {z:PVal}:∀ {ks vs:List PVal} {j:Nat} {v:PVal},J4 ks=true→ks[j]? = some (.str s)→vs[j]? = some v→Gi s z ks vs=v
 | [],_,j,v,_,h,_=>by simp at h
 | k::ks,[],j,v,_,_,hv=>by simp at hv
 | k::ks,u::vs,j,v,hk,h,hv=>by
   cases j with
   | zero=>simp at h hv;subst h hv;simp [Gi,isK]
   | succ j =>
     have h':ks[j]? = some (.str s):=by simpa using h
     have hv':vs[j]? = some v:=by simpa using hv
     cases k <;> simp [J4] at hk
     rename_i kk
     have hne:isK s (.str kk)=false:=by
      simp only [isK,decide_eq_false_iff_not]
      intro e
      subst e
      rw [Rm h'] at hk
      simp at hk
     simp only [Gi,hne,cond_false]
     exact W3 hk.2 h' hv'
theorem Rl {s:List UInt8} {z:PVal}:∀ {ks vs:List PVal},Gj s ks=false→Gi s z ks vs=z
 | [],_,_=>by simp [Gi]
 | k::ks,[],_=>by simp [Gi]
 | k::ks,u::vs,h=>by
   simp only [Gj,Bool.or_eq_false_iff] at h
   simp only [Gi,h.1,cond_false]
   exact Rl h.2
theorem Sc {t:Nat} {p ix:PVal} {ok:Bool} {v y:Value} (hp:Rep V p v) (hi:Rep V ix y) {K:PVal→Prop} (h:Fg C t p ix ok K) :
  ∃ u q,(Instr.lookup t v y ok).run C.P V.w=.ok u V.w∧Rep V q u∧K q:=by
 unfold Fg at h
 split at h
 ·rename_i s
  cases hi
  split at h
  ·rename_i ks vs
   split at h
   ·rename_i z hz
    obtain ⟨hall,hK⟩:=h
    obtain ⟨k,e,zv,hu,hk,hzv,hzz⟩:=lkq_spec hz
    cases hp with
    | fmap π hown hb hl hπ hs h1 h2 =>
      rename_i b es clock
      have hrun:∀ (d:Option (Nat × Value)),Instr.findNow .string (.string ⟨⟨s⟩⟩) es.toList 0=some d →
        (Instr.lookup t (.map (some b)) (.string ⟨⟨s⟩⟩) ok).run C.P V.w=.ok (match d with
         | some (_,v)=>if ok then .tuple #[v,.bool true] else v
         | none=>if ok then .tuple #[zv,.bool false] else zv) V.w:=fun d hd=>by
       unfold Instr.lookup
       simp only [Sem.run_bind,run_underlying hu,Result.andThen_ok,MapKept.run_getObj_map hb,Sem.run_pure,MapKept.run_checkKey (n:=9999) hk (show MapKept.IsKey .string (.string ⟨⟨s⟩⟩) from trivial),MapKept.run_findKey hk hd]
       cases d with
       | none=>simp only [Je hzv,Sem.run_bind,Result.andThen_ok,Sem.run_pure]
       | some x=>rfl
      -- what the entry i is
      have ent:∀ i (x:MapEntry),es.toList[i]? = some x→∃ s' c,ks[π i]? = some (.str s')∧x.key=.string ⟨⟨s'⟩⟩∧vs[π i]? = some c∧Rep V c x.val:=fun i x hx=>by
       have hlt:i < es.size:=by simpa using (List.getElem?_eq_some_iff.1 hx).1
       have hlk:=hπ i hlt
       obtain ⟨s',hs'⟩:=Rp hall (π i) _ (List.getElem?_eq_getElem hlk)
       have hgx:es.getD i default=x:=by
        rw [Array.getD_eq_getD_getElem?]
        have:es[i]? = some x:=by simpa using hx
        rw [this];rfl
       have k1:=h1 i _ hlt (List.getElem?_eq_getElem hlk)
       rw [hs',hgx] at k1
       have hlv:π i < vs.length:=by omega
       have k2:=h2 i _ hlt (List.getElem?_eq_getElem hlv)
       rw [hgx] at k2
       generalize hxk:x.key=kv at k1
       cases k1
       exact ⟨s',_,by rw [List.getElem?_eq_getElem hlk,hs'],rfl,List.getElem?_eq_getElem hlv,k2⟩
      have hkeys:∀ x∈es.toList,MapKept.IsKey .string x.key:=fun x hx=>by
       obtain ⟨i,hi⟩:=List.getElem?_of_mem hx
       obtain ⟨s',c,_,hxk,_⟩:=ent i x hi
       rw [hxk];trivial
      rcases MapKept.findNow_spec (d:=.string) (k:=.string ⟨⟨s⟩⟩) trivial es.toList 0 hkeys with ⟨f1,f2⟩ | ⟨j,x,f1,f2,f3⟩
      ·have hB:Gj s ks=false:=by
        cases hB:Gj s ks with
        | false=>rfl
        | true =>
          exfalso
          obtain ⟨j,hj⟩:=Tj hB
          obtain ⟨i,hi,rfl⟩:=hs j (List.getElem?_eq_some_iff.1 hj).1
          have hx:es.toList[i]? = some es[i]:=by simp [hi]
          obtain ⟨s',c,e1,e2,_⟩:=ent i _ hx
          rw [hj] at e1
          cases e1
          exact f2 _ (List.mem_of_getElem? hx) e2
       have hR:Gi s z ks vs=z:=Rl hB
       have hr:Rep V (Gi s z ks vs) zv:=by rw [hR,← hzz];exact J2 V zv
       cases ok with
       | true =>
         refine ⟨_,_,hrun _ f1,?_,hK⟩
         exact .tuple rfl fun j c hc=>by
          match j with
          | 0=>simp at hc;subst hc;exact hr
          | 1=>simp at hc;subst hc;rw [hB];exact .bool
          | j + 2=>simp at hc
       | false=>exact ⟨_,_,hrun _ f1,hr,hK⟩
      ·obtain ⟨s',c,e1,e2,e3,e4⟩:=ent j x f2
       have hss:s'=s:=by rw [e2] at f3;cases f3;rfl
       subst hss
       have hB:Gj s' ks=true:=Rm e1
       have hR:Gi s' z ks vs=c:=W3 hall e1 e3
       have hr:Rep V (Gi s' z ks vs) x.val:=by rw [hR];exact e4
       rw [Nat.zero_add] at f1
       cases ok with
       | true =>
         refine ⟨_,_,hrun _ f1,?_,hK⟩
         exact .tuple rfl fun j c hc=>by
          match j with
          | 0=>simp at hc;subst hc;exact hr
          | 1=>simp at hc;subst hc;rw [hB];exact .bool
          | j + 2=>simp at hc
       | false=>exact ⟨_,_,hrun _ f1,hr,hK⟩
   ·exact h.elim
  ·exact h.elim
 ·exact h.elim

/-! ### type assertions to a concrete type -/
def Ei (C:Ctx) (t:TypeId) (p:PVal) (ok:Bool) (K:PVal→Prop):Prop :=
 match C.P.underlying t with
 | some (.interface _)=>False
 | some _=>match p with
   | .iface d v=>bif Nat.beq d t then K (bif ok then .tuple [v,.bool true] else v) else (ok=true∧match tz C.P t with
     | some z=>K (.tuple [z,.bool false])
     | none=>False)
   | .niliface=>ok=true∧match tz C.P t with
     | some z=>K (.tuple [z,.bool false])
     | none=>False
   | _=>False
 | none=>False
theorem Zu {p:PVal} {v:Value} (h:Rep V p v) (b:Bool):Rep V (.tuple [p,.bool b]) (.tuple #[v,.bool b]):=.tuple rfl fun j c hc=>by
 match j with
 | 0=>simp at hc;subst hc;exact h
 | 1=>simp at hc;subst hc;exact .bool
 | j + 2=>simp at hc
theorem Se {t xt:Nat} {p:PVal} {ok:Bool} {v:Value} (hp:Rep V p v) {K:PVal→Prop} (h:Ei C t p ok K) :
  ∃ u q,(Instr.typeAssert v xt t ok).run C.P V.w=.ok u V.w∧Rep V q u∧K q:=by
 unfold Ei at h
 split at h
 ·exact h.elim
 ·rename_i d hne hu
  have hne':∀ m,d≠.interface m:=fun m e=>hne m e
  have fails:∀ {K:PVal→Prop},(match tz C.P t with
   | some z=>K (.tuple [z,.bool false])
   | none=>False)→∃ zv q,(zeroValue t).run C.P V.w=.ok zv V.w∧Rep V (.tuple [q,.bool false]) (.tuple #[zv,.bool false])∧K (.tuple [q,.bool false]):=fun {K} h=>by
   split at h
   ·rename_i z hz
    unfold tz at hz
    simp only [Option.map_eq_some_iff] at hz
    obtain ⟨zv,h1,h2⟩:=hz
    exact ⟨zv,z,Je h1 V.w,Zu (h2 ▸ J2 V zv) false,h⟩
   ·exact h.elim
  split at h
  ·rename_i t' p'
   cases hp with
   | iface hp =>
     rename_i v'
     cases hb:Nat.beq t' t with
     | true =>
       have e:=Nat.eq_of_beq_eq_true hb
       subst e
       rw [hb] at h
       simp only [cond_true] at h
       cases ok with
       | true =>
         refine ⟨_,_,?_,Zu hp true,h⟩
         unfold Instr.typeAssert
         rw [Sem.run_bind,run_underlying hu]
         simp only [Result.andThen_ok]
         cases d <;> first | exact absurd rfl (hne' _) | simp
       | false =>
         refine ⟨_,_,?_,hp,h⟩
         unfold Instr.typeAssert
         rw [Sem.run_bind,run_underlying hu]
         simp only [Result.andThen_ok]
         cases d <;> first | exact absurd rfl (hne' _) | simp
     | false =>
       have e:t'≠t:=fun e=>by subst e;simp at hb
       rw [hb] at h
       simp only [cond_false] at h
       obtain ⟨rfl,h⟩:=h
       obtain ⟨zv,q,hz,hr,hk⟩:=fails h
       refine ⟨_,_,?_,hr,hk⟩
       unfold Instr.typeAssert
       rw [Sem.run_bind,run_underlying hu]
       simp only [Result.andThen_ok]
       cases d <;> first | exact absurd rfl (hne' _) | simp [e,hz]
  ·cases hp
   obtain ⟨rfl,h⟩:=h
   obtain ⟨zv,q,hz,hr,hk⟩:=fails h
   refine ⟨_,_,?_,hr,hk⟩
   unfold Instr.typeAssert
   rw [Sem.run_bind,run_underlying hu]
   simp only [Result.andThen_ok]
   cases d <;> first | exact absurd rfl (hne' _) | simp [hz]
  ·exact h.elim
 ·exact h.elim
end Go.V
namespace Go.V
open Go

variable {C:Ctx} {V:View} {σ:St}

/-! ### equality -/
def eqC:PVal→PVal→Option Bool
 | .int k a,.int k' b=>if k=k' then some (decide (a=b)) else none
 | .bool a,.bool b=>some (decide (a=b))
 | .str a,.str b=>some (decide (a=b))
 | _,_=>none
def eqL:List PVal→List PVal→Option Bool
 | [],[]=>some true
 | x::xs,y::ys=>match eqC x y,eqL xs ys with
   | some a,some b=>some (a && b)
   | _,_=>none
 | _,_=>none

/-- The kind of a type whose values are compared as one cell: 1 a whole number, 2 a bool, 3 a string. -/
def kq (P:Program) (t:TypeId):Nat :=
 match P.underlying t with
 | some (.int _)=>1
 | some .bool=>2
 | some .string=>3
 | _=>0
def J3:PVal→Nat
 | .int _ _=>1
 | .bool _=>2
 | .str _=>3
 | _=>4
def fks (P:Program):Nat→List Field→Option (List Nat)
 | _,[]=>some []
 | i,f::fs=>if f.name != "_" && f.offset == i then (fks P (i + 1) fs).map (kq P f.type::·) else none
/-- Of a struct type that is compared field by field, each field one cell: the fields' kinds. -/
def feq (P:Program) (t:TypeId):Option (List Nat) :=
 match P.underlying t with
 | some (.struct fs)=>if P.stoodInHeld t || P.eqGuardType P.depth t then none else fks P 0 fs.toList
 | _=>none

theorem kq_1 {P:Program} {t:TypeId} (h:kq P t=1):∃ k,P.underlying t=some (.int k):=by
 unfold kq at h;split at h <;> first | exact ⟨_,by assumption⟩ | cases h
theorem kq_2 {P:Program} {t:TypeId} (h:kq P t=2):P.underlying t=some .bool:=by
 unfold kq at h;split at h <;> first | assumption | cases h
theorem kq_3 {P:Program} {t:TypeId} (h:kq P t=3):P.underlying t=some .string:=by
 unfold kq at h;split at h <;> first | assumption | cases h

theorem eqC_run {P:Program} {t:TypeId} {x y:PVal} {b:Bool} (h:eqC x y=some b) (hk:kq P t=J3 x) {u v:Value} (hu:Rep V x u) (hv:Rep V y v) (d:Nat) (w:World) :
  (Op.equalIn (d + 1) t u v).run P w=.ok b w:=by
 unfold eqC at h
 split at h
 ·split at h
  ·rename_i e
   cases h;cases hu;cases hv;subst e
   obtain ⟨k',hk'⟩:=kq_1 hk
   rw [run_equalIn_int w d t _ _ _ _ hk']
   congr 1
  ·cases h
 ·cases h;cases hu;cases hv
  rw [run_equalIn_bool' w d t _ _ (kq_2 hk)]
  rename_i a b
  cases a <;> cases b <;> rfl
 ·cases h;cases hu;cases hv
  rw [run_equalIn_string w d t _ _ (kq_3 hk)]
  congr 1
  rw [Bool.eq_iff_iff]
  simp [ByteArray.toList_eq]
 ·cases h

theorem Aal {P:Program}:∀ (fs:List Field) (i:Nat) (xs ys:List PVal) (b:Bool) (us vs:Array Value),fks P i fs=some (xs.map J3)→eqL xs ys=some b →
  (∀ (j:Nat) (c:PVal),xs[j]? = some c→i + j < us.size∧Rep V c (us.getD (i + j) undef))→(∀ (j:Nat) (c:PVal),ys[j]? = some c→i + j < vs.size∧Rep V c (vs.getD (i + j) undef)) →
  ∀ (d:Nat) (w:World),(Op.eqFields (d + 1) us vs fs).run P w=.ok b w
 | [],i,xs,ys,b,us,vs,hp,h,_,_,d,w=>by
   cases xs with
   | cons x xs=>simp [fks] at hp
   | nil =>
     cases ys with
     | nil=>cases h;rfl
     | cons y ys=>cases h
 | f::fs,i,xs,ys,b,us,vs,hp,h,hu,hv,d,w=>by
   unfold fks at hp
   split at hp
   case isFalse=>cases hp
   rename_i hc
   simp only [Bool.and_eq_true,bne_iff_ne,ne_eq,beq_iff_eq] at hc
   obtain ⟨h1,h2⟩:=hc
   cases xs with
   | nil=>simp at hp
   | cons x xs =>
     simp only [List.map_cons,Option.map_eq_some_iff] at hp
     obtain ⟨l,hl,hl2⟩:=hp
     simp only [List.cons.injEq] at hl2
     obtain ⟨hkx,rfl⟩:=hl2
     cases ys with
     | nil=>cases h
     | cons y ys =>
       unfold eqL at h
       split at h
       ·rename_i a b' ha hb'
        cases h
        obtain ⟨l1,r1⟩:=hu 0 x rfl
        obtain ⟨l2,r2⟩:=hv 0 y rfl
        rw [Nat.add_zero] at l1 r1 l2 r2
        have hisA:∀ w,(isAgg f.type).run P w=.ok false w:=fun w=>by
         unfold kq at hkx
         split at hkx
         case h_4=>exfalso;unfold J3 at hkx;split at hkx <;> cases hkx
         all_goals (rename_i hh;rw [Ly hh])
        have p1:∀ (us:Array Value),i < us.size→(part f.type us f.offset).run P w=.ok (us.getD i undef) w:=fun us l1=>by
         have:us[i]? = some (us.getD i undef):=by rw [Array.getD_eq_getD_getElem?,Array.getElem?_eq_getElem l1];rfl
         unfold part
         rw [Sem.run_bind,hisA]
         simp only [Result.andThen_ok,Bool.false_eq_true,if_false,h2,this,Sem.run_pure]
        have he:(Op.equalIn (d + 1) f.type (us.getD i undef) (vs.getD i undef)).run P w=.ok a w:=eqC_run ha hkx r1 r2 d w
        have ih:=Aal fs (i + 1) xs ys b' us vs hl hb' (fun j c hc=>by have:=hu (j + 1) c hc;rwa [show i + (j + 1)=i + 1 + j by omega] at this)
         (fun j c hc=>by have:=hv (j + 1) c hc;rwa [show i + (j + 1)=i + 1 + j by omega] at this) d w
        unfold Op.eqFields
        rw [if_pos h1]
        simp only [Sem.run_bind,p1 us l1,p1 vs l2,he,Result.andThen_ok]
        cases a
        ·simp
        ·simpa using ih
       ·cases h

theorem Sp {P:Program} {t:TypeId} {xs ys:List PVal} {b:Bool} (hf:feq P t=some (xs.map J3)) (h:eqL xs ys=some b) {u v:Value} (hu:Rep V (.agg xs) u) (hv:Rep V (.agg ys) v) (w:World) :
  (Op.equal t u v).run P w=.ok b w∧∀ x y,(eqGuard .eql t x y u v).run P w=.ok () w∧(eqGuard .neq t x y u v).run P w=.ok () w:=by
 unfold feq at hf
 split at hf
 ·rename_i fs hfs
  split at hf
  ·cases hf
  ·rename_i hg
   simp only [Bool.or_eq_true,not_or,Bool.not_eq_true] at hg
   cases hu with
   | agg hl h1 h2 =>
     cases hv with
     | agg hl' h1' h2' =>
       rename_i us vs
       have hfo:P.fieldsOf t=fs:=by simp [Program.fieldsOf,hfs]
       constructor
       ·unfold Op.equal
        have:=run_equalIn_struct w 9999 t us vs (by rw [hfo];exact hfs) hg.1
        rw [show Op.maxDepth=9999 + 1 from rfl,this,hfo]
        exact Aal fs.toList 0 xs ys b us vs hf h (fun j c hc=>by rw [Nat.zero_add];exact ⟨by rw [hl];exact (List.getElem?_eq_some_iff.1 hc).1,h2 j c hc⟩)
         (fun j c hc=>by rw [Nat.zero_add];exact ⟨by rw [hl'];exact (List.getElem?_eq_some_iff.1 hc).1,h2' j c hc⟩) 9998 w
       ·intro x y
        constructor <;> simp [eqGuard,hg.2]
 ·cases hf

/-! ### operators of two operands -/
def Ht (op:BinOp) (k:IntKind) (a:Int) (k':IntKind) (b:Int) (K:PVal→Prop):Prop :=
 match op with
 | .add=>k=k'∧K (.int k (k.wrap (a + b)))
 | .sub=>k=k'∧K (.int k (k.wrap (a - b)))
 | .mul=>k=k'∧K (.int k (k.wrap (a * b)))
 | .quo=>k=k'∧b≠0∧K (.int k (k.wrap (a.tdiv b)))
 | .rem=>k=k'∧b≠0∧K (.int k (a.tmod b))
 | .and=>k=k'∧K (.int k (Go.bits .and k a b))
 | .or=>k=k'∧K (.int k (Go.bits .or k a b))
 | .xor=>k=k'∧K (.int k (Go.bits .xor k a b))
 | .andNot=>k=k'∧K (.int k (Go.bits .andNot k a b))
 | .shl=>0≤b∧K (.int k (k.wrap (a * 2 ^ min b.toNat k.bits)))
 | .shr=>0≤b∧K (.int k (a.fdiv (2 ^ min b.toNat k.bits)))
 | .eql=>k=k'∧K (.bool (decide (a=b)))
 | .neq=>k=k'∧K (.bool (!decide (a=b)))
 | .lss=>k=k'∧K (.bool (decide (a < b)))
 | .leq=>k=k'∧K (.bool (decide (a≤b)))
 | .gtr=>k=k'∧K (.bool (decide (b < a)))
 | .geq=>k=k'∧K (.bool (decide (b≤a)))
def Qm (op:BinOp) (a b:List UInt8) (K:PVal→Prop):Prop :=
 match op with
 | .add=>a.length + b.length≤9223372036854775807∧K (.str (a ++ b))
 | .eql=>K (.bool (decide (a=b)))
 | .neq=>K (.bool (!decide (a=b)))
 | .lss=>K (.bool (Op.bytesLess a b))
 | .leq=>K (.bool (Op.bytesLess a b || decide (a=b)))
 | .gtr=>K (.bool (!(Op.bytesLess a b || decide (a=b))))
 | .geq=>K (.bool (!Op.bytesLess a b))
 | _=>False
def Hu (op:BinOp) (b:Bool) (K:PVal→Prop):Prop :=
 match op with
 | .eql=>K (.bool b)
 | .neq=>K (.bool (!b))
 | _=>False
def isC:Operand→Bool
 | .const _=>true
 | _=>false
def ifq (P:Program) (t:TypeId):Bool :=
 match P.underlying t with
 | some (.interface _)=>true
 | _=>false
def ptq (P:Program) (t:TypeId):Bool :=
 match P.underlying t with
 | some (.pointer _)=>true
 | _=>false
def Oi (C:Ctx) (op:BinOp) (t:TypeId) (x y:Operand) (p q:PVal) (σ:St) (K:PVal→Prop):Prop :=
 match p,q with
 | .int k a,.int k' b=>Ht op k a k' b K
 | .str a,.str b=>Qm op a b K
 | .bool a,.bool b=>C.P.underlying t=some .bool∧Hu op (decide (a=b)) K
 | .agg xs,.agg ys=>match feq C.P t,eqL xs ys with
   | some ks,some b=>ks=xs.map J3∧Hu op b K
   | _,_=>False
 | .niliface,.niliface=>ifq C.P t=true∧(isC x || isC y)=true∧Hu op true K
 | .iface _ _,.niliface=>ifq C.P t=true∧Hu op false K
 | .nilp,.nilp=>ptq C.P t=true∧Hu op true K
 | .ptr r _ _,.nilp=>ptq C.P t=true∧(match Ao σ.o σ.l r with | some .dead=>False | none=>False | _=>True)∧Hu op false K
 | _,_=>False

theorem Xz {op:BinOp} {k k':IntKind} {a b:Int} {K:PVal→Prop} (h:Ht op k a k' b K) (t:TypeId) (P:Program) (w:World) :
  ∃ u q,(binOp op t (.int k a) (.int k' b)).run P w=.ok u w∧Rep V q u∧K q:=by
 cases op <;> simp only [Ht] at h
 case add =>
  obtain ⟨rfl,h⟩:=h
  exact ⟨.int k (k.wrap (a + b)),_,by simp [binOp,Op.intArith],.int,h⟩
 case sub =>
  obtain ⟨rfl,h⟩:=h
  exact ⟨.int k (k.wrap (a - b)),_,by simp [binOp,Op.intArith],.int,h⟩
 case mul =>
  obtain ⟨rfl,h⟩:=h
  exact ⟨.int k (k.wrap (a * b)),_,by simp [binOp,Op.intArith],.int,h⟩
 case quo =>
  obtain ⟨rfl,h0,h⟩:=h
  exact ⟨.int k (k.wrap (a.tdiv b)),_,by simp [binOp,Op.intDiv,h0],.int,h⟩
 case rem =>
  obtain ⟨rfl,h0,h⟩:=h
  exact ⟨.int k (a.tmod b),_,by simp [binOp,Op.intDiv,h0],.int,h⟩
 case and =>
  obtain ⟨rfl,h⟩:=h
  exact ⟨.int k (Go.bits .and k a b),_,by simp [binOp,intBits_and],.int,h⟩
 case or =>
  obtain ⟨rfl,h⟩:=h
  exact ⟨.int k (Go.bits .or k a b),_,by simp [binOp,intBits_or],.int,h⟩
 case xor =>
  obtain ⟨rfl,h⟩:=h
  exact ⟨.int k (Go.bits .xor k a b),_,by simp [binOp,intBits_xor],.int,h⟩
 case andNot =>
  obtain ⟨rfl,h⟩:=h
  exact ⟨.int k (Go.bits .andNot k a b),_,by simp [binOp,intBits_andNot],.int,h⟩
 case shl =>
  obtain ⟨h0,h⟩:=h
  have:¬ b < 0:=by omega
  exact ⟨.int k (k.wrap (a * 2 ^ min b.toNat k.bits)),_,by simp [binOp,Op.shift,this],.int,h⟩
 case shr =>
  obtain ⟨h0,h⟩:=h
  have:¬ b < 0:=by omega
  exact ⟨.int k (a.fdiv (2 ^ min b.toNat k.bits)),_,by simp [binOp,Op.shift,this],.int,h⟩
 case eql =>
  obtain ⟨rfl,h⟩:=h
  have e:(a == b)=decide (a=b):=by rw [Bool.eq_iff_iff];simp
  exact ⟨.bool (a == b),_,by simp [binOp,Op.intCmp],(by rw [e];exact .bool),h⟩
 case neq =>
  obtain ⟨rfl,h⟩:=h
  have e:(a != b)=!decide (a=b):=by rw [Bool.eq_iff_iff];simp
  exact ⟨.bool (a != b),_,by simp [binOp,Op.intCmp],(by rw [e];exact .bool),h⟩
 case lss =>
  obtain ⟨rfl,h⟩:=h
  exact ⟨.bool (decide (a < b)),_,by simp [binOp,Op.intCmp],.bool,h⟩
 case leq =>
  obtain ⟨rfl,h⟩:=h
  exact ⟨.bool (decide (a≤b)),_,by simp [binOp,Op.intCmp],.bool,h⟩
 case gtr =>
  obtain ⟨rfl,h⟩:=h
  exact ⟨.bool (decide (b < a)),_,by simp [binOp,Op.intCmp],.bool,h⟩
 case geq =>
  obtain ⟨rfl,h⟩:=h
  exact ⟨.bool (decide (b≤a)),_,by simp [binOp,Op.intCmp],.bool,h⟩

theorem Xv {op:BinOp} {a b:List UInt8} {K:PVal→Prop} (h:Qm op a b K) (t:TypeId) (P:Program) (w:World) :
  ∃ u q,(binOp op t (.string ⟨⟨a⟩⟩) (.string ⟨⟨b⟩⟩)).run P w=.ok u w∧Rep V q u∧K q:=by
 have e1:∀ (c:List UInt8),(⟨⟨c⟩⟩:ByteArray).toList=c:=fun c=>by rw [ByteArray.toList_eq]
 have e2:(a == b)=decide (a=b):=by rw [Bool.eq_iff_iff];simp
 unfold Qm at h
 split at h
 ·obtain ⟨h0,h⟩:=h
  refine ⟨.string (⟨⟨a⟩⟩ ++ ⟨⟨b⟩⟩),_,?_,?_,h⟩
  ·rw [binOp_string_add]
   exact run_string_add_sum w _ _ (by simpa [ByteArray.size] using h0)
  ·rw [ByteArray.mk_append_mk]
   exact .str
 ·exact ⟨.bool (decide (a=b)),_,by simp [binOp,Op.stringOp,e1,e2],.bool,h⟩
 ·exact ⟨.bool (!decide (a=b)),_,by simp [binOp,Op.stringOp,e1,e2],.bool,h⟩
 ·exact ⟨.bool (Op.bytesLess a b),_,by simp [binOp,Op.stringOp,e1],.bool,h⟩
 ·exact ⟨.bool (Op.bytesLess a b || decide (a=b)),_,by simp [binOp,Op.stringOp,e1,e2],.bool,h⟩
 ·exact ⟨.bool (!(Op.bytesLess a b || decide (a=b))),_,by simp [binOp,Op.stringOp,e1,e2],.bool,h⟩
 ·exact ⟨.bool (!Op.bytesLess a b),_,by simp [binOp,Op.stringOp,e1],.bool,h⟩
 ·exact h.elim

theorem X3 (hM:MemRel C V (Ao σ.o σ.l)) {op:BinOp} {t:Nat} {x y:Operand} {p q:PVal} {u v:Value} (hp:Rep V p u) (hq:Rep V q v) {K:PVal→Prop} (h:Oi C op t x y p q σ K) :
  ∃ r s,((do eqGuard op t x y u v;binOp op t u v):Sem Value).run C.P V.w=.ok r V.w∧Rep V s r∧K s:=by
 have noguard:∀ u v,(¬ (u matches .nilIface | .agg _))→(eqGuard op t x y u v).run C.P V.w=.ok () V.w:=fun u v hn=>by
  unfold eqGuard
  cases u <;> first | (exfalso;exact hn rfl) | (cases op <;> simp)
 unfold Oi at h
 split at h
 ·cases hp;cases hq
  obtain ⟨r,s,hr,hs,hK⟩:=Xz (V:=V) h t C.P V.w
  exact ⟨r,s,by rw [Sem.run_bind,noguard _ _ (by simp)];exact hr,hs,hK⟩
 ·cases hp;cases hq
  obtain ⟨r,s,hr,hs,hK⟩:=Xv (V:=V) h t C.P V.w
  exact ⟨r,s,by rw [Sem.run_bind,noguard _ _ (by simp)];exact hr,hs,hK⟩
 ·cases hp;cases hq
  rename_i a b
  obtain ⟨hu,h⟩:=h
  have he:(Op.equal t (.bool a) (.bool b)).run C.P V.w=.ok (decide (a=b)) V.w:=by
   have:=run_equalIn_bool' (P:=C.P) V.w 9999 t a b hu
   unfold Op.equal
   rw [show Op.maxDepth=9999 + 1 from rfl,this]
   cases a <;> cases b <;> rfl
  unfold Hu at h
  split at h
  ·refine ⟨_,_,?_,.bool,h⟩
   rw [Sem.run_bind,noguard _ _ (by simp)]
   simp [binOp,he]
  ·refine ⟨_,_,?_,.bool,h⟩
   rw [Sem.run_bind,noguard _ _ (by simp)]
   simp [binOp,he]
  ·exact h.elim
 ·rename_i xs ys
  split at h
  ·rename_i ks b hf he
   obtain ⟨rfl,h⟩:=h
   obtain ⟨h1,h2⟩:=Sp (P:=C.P) hf he hp hq V.w
   obtain ⟨g1,g2⟩:=h2 x y
   cases hp;cases hq
   unfold Hu at h
   split at h
   ·refine ⟨_,_,?_,.bool,h⟩
    rw [Sem.run_bind,g1]
    simp [binOp,h1]
   ·refine ⟨_,_,?_,.bool,h⟩
    rw [Sem.run_bind,g2]
    simp [binOp,h1]
   ·exact h.elim
  ·exact h.elim
 ·obtain ⟨hi,hc,h⟩:=h
  cases hp;cases hq
  have hu:∃ ms,C.P.underlying t=some (.interface ms):=by
   unfold ifq at hi;split at hi <;> first | exact ⟨_,by assumption⟩ | cases hi
  obtain ⟨ms,hu⟩:=hu
  have he:(Op.equal t .nilIface .nilIface).run C.P V.w=.ok true V.w:=by
   have L:∀ d,(Op.equalIn (d + 1) t .nilIface .nilIface).run C.P V.w=.ok true V.w:=fun d=>by simp [Op.equalIn,run_underlying hu]
   exact L 9999
  have hg:(eqGuard op t x y .nilIface .nilIface).run C.P V.w=.ok () V.w:=by
   cases hx:isC x with
   | true =>
     cases x with
     | const c=>cases op <;> simp [eqGuard]
     | tmp=>exact Bool.noConfusion hx
     | global=>exact Bool.noConfusion hx
     | func=>exact Bool.noConfusion hx
   | false =>
     rw [hx,Bool.false_or] at hc
     cases y with
     | const c=>cases op <;> cases x <;> simp [eqGuard]
     | tmp=>exact Bool.noConfusion hc
     | global=>exact Bool.noConfusion hc
     | func=>exact Bool.noConfusion hc
  unfold Hu at h
  split at h
  ·refine ⟨_,_,?_,.bool,h⟩
   rw [Sem.run_bind,hg]
   simp [binOp,he]
  ·refine ⟨_,_,?_,.bool,h⟩
   rw [Sem.run_bind,hg]
   simp [binOp,he]
  ·exact h.elim
 ·obtain ⟨hi,h⟩:=h
  cases hp;cases hq
  have hu:∃ ms,C.P.underlying t=some (.interface ms):=by
   unfold ifq at hi;split at hi <;> first | exact ⟨_,by assumption⟩ | cases hi
  obtain ⟨ms,hu⟩:=hu
  rename_i t' p' v' _
  have he:(Op.equal t (.iface t' v') .nilIface).run C.P V.w=.ok false V.w:=by
   have L:∀ d,(Op.equalIn (d + 1) t (.iface t' v') .nilIface).run C.P V.w=.ok false V.w:=fun d=>by simp [Op.equalIn,run_underlying hu]
   exact L 9999
  unfold Hu at h
  split at h
  ·refine ⟨_,_,?_,.bool,h⟩
   rw [Sem.run_bind,noguard _ _ (by simp)]
   simp [binOp,he]
  ·refine ⟨_,_,?_,.bool,h⟩
   rw [Sem.run_bind,noguard _ _ (by simp)]
   simp [binOp,he]
  ·exact h.elim
 ·obtain ⟨hi,h⟩:=h
  cases hp;cases hq
  have hu:∃ e,C.P.underlying t=some (.pointer e):=by
   unfold ptq at hi;split at hi <;> first | exact ⟨_,by assumption⟩ | cases hi
  obtain ⟨e,hu⟩:=hu
  have he:(Op.equal t (.pointer none) (.pointer none)).run C.P V.w=.ok true V.w:=by
   have L:∀ d,(Op.equalIn (d + 1) t (.pointer none) (.pointer none)).run C.P V.w=.ok true V.w:=fun d=>by simp [Op.equalIn,run_underlying hu]
   exact L 9999
  unfold Hu at h
  split at h
  ·refine ⟨_,_,?_,.bool,h⟩
   rw [Sem.run_bind,noguard _ _ (by simp)]
   simp [binOp,he]
  ·refine ⟨_,_,?_,.bool,h⟩
   rw [Sem.run_bind,noguard _ _ (by simp)]
   simp [binOp,he]
  ·exact h.elim
 ·obtain ⟨hi,hb,h⟩:=h
  cases hq
  have hu:∃ e,C.P.underlying t=some (.pointer e):=by
   unfold ptq at hi;split at hi <;> first | exact ⟨_,by assumption⟩ | cases hi
  obtain ⟨e,hu⟩:=hu
  cases hp with
  | ptrDead hd _ =>
    exfalso
    rename_i r _ _ _
    split at hb
    ·exact hb
    ·exact hb
    ·rename_i h1 h2
     cases hB:Ao σ.o σ.l r with
     | none=>exact h2 hB
     | some k =>
       have:=hM.blk _ _ hB
       cases k with
       | dead=>exact h1 hB
       | row=>rcases this with ⟨h1,_⟩ | ⟨_,_,_,_,h1,_⟩ <;> rw [h1] at hd <;> cases hd
       | mp=>obtain ⟨_,_,_,h1,_⟩:=this;rw [h1] at hd;cases hd
       | iter=>obtain ⟨_,h1,_⟩:=this;rw [h1] at hd;cases hd
  | ptr hl =>
    rename_i i off bb base size
    have he:∀ a,(Op.equal t (.pointer (some a)) (.pointer none)).run C.P V.w=.ok false V.w:=fun a=>by
     have L:∀ d,(Op.equalIn (d + 1) t (.pointer (some a)) (.pointer none)).run C.P V.w=.ok false V.w:=fun d=>by simp [Op.equalIn,run_underlying hu]
     exact L 9999
    unfold Hu at h
    split at h
    ·refine ⟨_,_,?_,.bool,h⟩
     rw [Sem.run_bind,noguard _ _ (by simp)]
     simp [binOp,he]
    ·refine ⟨_,_,?_,.bool,h⟩
     rw [Sem.run_bind,noguard _ _ (by simp)]
     simp [binOp,he]
    ·exact h.elim
 ·exact h.elim
end Go.V
namespace Go.V
open Go

variable {C:Ctx} {V:View} {σ:St}

/-! ### struct and array literals -/
/-- Of a struct type: the cells of its zero value, and the places of its fields. -/
def bq (P:Program) (t:TypeId):Option (List PVal × List (Nat × Nat)) :=
 match P.info? t,P.underlying t with
 | some it,some (.struct fields)=>match it.zero,fields.toList.mapM (fun f=>(P.info? f.type).map fun i=>(f.offset,i.size)) with
   | some z,some places=>match ofV z with
     | .agg zs=>some (zs,places)
     | _=>none
   | _,_=>none
 | _,_=>none
/-- Of an array type: the cells of its zero value, and its element's size. -/
def abq (P:Program) (t:TypeId):Option (List PVal × Nat) :=
 match P.info? t,P.underlying t with
 | some it,some (.array _ e)=>match it.zero,P.info? e with
   | some z,some ie=>match ofV z with
     | .agg zs=>some (zs,ie.size)
     | _=>none
   | _,_=>none
 | _,_=>none

def Eh (place:Nat→Option (Nat × Nat)) (e:Env):List PVal→List (Nat × Operand)→(List PVal→Prop)→Prop
 | zs,[],K=>K zs
 | zs,(i,x)::r,K=>match place i with
   | some (off,n)=>(val e x).solid=true∧(val e x).cells.length=n∧off + n≤zs.length∧Eh place e (Hl zs off (val e x).cells) r K
   | none=>False

def Fp (C:Ctx) (t:TypeId) (parts:Array (Nat × Operand)) (e:Env) (K:PVal→Prop):Prop :=
 match bq C.P t with
 | some (zs,pl)=>Eh (fun i=>pl[i]?) e zs parts.toList fun cs=>K (.agg cs)
 | none=>match abq C.P t with
   | some (zs,n)=>Eh (fun i=>some (i * n,n)) e zs parts.toList fun cs=>K (.agg cs)
   | none=>False

theorem Rw (off:Nat):∀ (l:List Value) (s:Nat) (cs:Array Value),off + s + l.length≤cs.size →
  ((l.zipIdx s).foldl (fun cs (x:Value × Nat)=>cs.setIfInBounds (off + x.2) x.1) cs).size=cs.size ∧
  ∀ m,((l.zipIdx s).foldl (fun cs (x:Value × Nat)=>cs.setIfInBounds (off + x.2) x.1) cs).getD m undef=if off + s≤m∧m < off + s + l.length then l.getD (m - (off + s)) undef else cs.getD m undef
 | [],s,cs,_=>⟨rfl,fun m=>by rw [if_neg (by simp)];rfl⟩
 | v::l,s,cs,h=>by
   simp at h
   obtain ⟨h1,h2⟩:=Rw off l (s + 1) (cs.setIfInBounds (off + s) v) (by simp;omega)
   simp only [List.zipIdx_cons,List.foldl_cons]
   refine ⟨by rw [h1];simp,fun m=>?_⟩
   rw [h2 m,Lj _ _ _ _ _ (by omega)]
   by_cases e:m=off + s
   ·subst e;rw [if_neg (by omega),if_pos rfl,if_pos (by simp)];simp
   ·by_cases hm:off + (s + 1)≤m∧m < off + (s + 1) + l.length
    ·rw [if_pos hm,if_pos (by simp;omega),show m - (off + s)=(m - (off + (s + 1))) + 1 by omega];simp
    ·rw [if_neg hm,if_neg e,if_neg (by simp;omega)]

theorem M1 {n:Nat} {a:Act} (hR:Rel C n V σ a) (place:Nat→Option (Nat × Nat)):∀ (parts:List (Nat × Operand)) (zs:List PVal) (cells:Array Value) (K:List PVal→Prop),
  Rep V (.agg zs) (.agg cells)→Eh place σ.e zs parts K →
  ∃ cells' cs,Instr.fill place cells (parts.map fun (i,x)=>(i,a.eval x))=some cells'∧Rep V (.agg cs) (.agg cells')∧K cs
 | [],zs,cells,K,hz,h=>⟨cells,zs,rfl,hz,h⟩
 | (i,x)::r,zs,cells,K,hz,h=>by
   unfold Eh at h
   split at h
   ·rename_i off m hp
    obtain ⟨hs,hm,hle,h⟩:=h
    obtain ⟨c1,c2,c3⟩:=E6 (Bp hR x) hs
    cases hz with
    | agg hl h1 h2 =>
      have hlen:(a.eval x).cells.toList.length=m:=by rw [Array.length_toList,c1,hm]
      obtain ⟨f1,f2⟩:=Rw off (a.eval x).cells.toList 0 cells (by omega)
      rw [Nat.add_zero,hlen] at f2
      have hrep:Rep V (.agg (Hl zs off (val σ.e x).cells)) (.agg (((a.eval x).cells.toList.zipIdx 0).foldl (fun cs (x:Value × Nat)=>cs.setIfInBounds (off + x.2) x.1) cells)):=by
       refine .agg (by rw [f1,Jf (by omega),hl]) (fun j hj=>?_) (fun j c hc=>?_)
       ·rw [Jf (by omega)] at hj
        rw [f2 j]
        split
        ·rename_i hin
         have:=c2 (j - off) (by omega)
         simpa [Array.getD_eq_getD_getElem?,List.getD_eq_getElem?_getD] using this
        ·exact h1 j hj
       ·rw [Kj (by omega)] at hc
        rw [f2 j]
        split at hc
        ·rename_i hin
         rw [if_pos (by omega)]
         have:=c3 _ _ hc
         simpa [Array.getD_eq_getD_getElem?,List.getD_eq_getElem?_getD] using this
        ·rename_i hin
         rw [if_neg (by omega)]
         exact h2 j c hc
      obtain ⟨cells',cs,g1,g2,g3⟩:=M1 hR place r _ _ K hrep h
      refine ⟨cells',cs,?_,g2,g3⟩
      simp only [List.map_cons]
      unfold Instr.fill
      simp only [hp,c1,hm]
      rw [if_neg (by simp;omega)]
      rw [←g1]
      congr 1
      rw [←Array.foldl_toList,Array.toList_zipIdx]
   ·exact h.elim

theorem T9 {n:Nat} {a:Act} (hR:Rel C n V σ a) {t:Nat} {parts:Array (Nat × Operand)} {K:PVal→Prop} (h:Fp C t parts σ.e K) :
  ∃ u q,(Instr.build t (parts.map fun (i,x)=>(i,a.eval x))).run C.P V.w=.ok u V.w∧Rep V q u∧K q:=by
 have hpl:(parts.map fun (i,x)=>(i,a.eval x)).toList=parts.toList.map fun (i,x)=>(i,a.eval x):=by simp
 have hag:∀ {z:Value} {zs:List PVal},ofV z=.agg zs→∃ cells,z=.agg cells∧Rep V (.agg zs) (.agg cells):=fun {z zs} hz=>by
  have:=J2 V z
  rw [hz] at this
  cases this with
  | agg hl h1 h2=>exact ⟨_,rfl,.agg hl h1 h2⟩
 unfold Fp at h
 split at h
 ·rename_i zs pl hb
  unfold bq at hb
  split at hb
  ·rename_i it fields hi hu
   split at hb
   ·rename_i z places hz hp
    split at hb
    ·rename_i zs' ho
     cases hb
     obtain ⟨cells,rfl,hrep⟩:=hag ho
     obtain ⟨cells',cs,g1,g2,g3⟩:=M1 hR _ _ _ _ _ hrep h
     refine ⟨.agg cells',_,run_build V.w t _ cells' ?_,g2,g3⟩
     unfold Program.built
     simp only [hi,hu,hz,hp,hpl,Value.cells]
     simpa using g1
    ·cases hb
   ·cases hb
  ·cases hb
 ·split at h
  ·rename_i zs m hb
   unfold abq at hb
   split at hb
   ·rename_i it k e hi hu
    split at hb
    ·rename_i z ie hz hie
     split at hb
     ·rename_i zs' ho
      cases hb
      obtain ⟨cells,rfl,hrep⟩:=hag ho
      obtain ⟨cells',cs,g1,g2,g3⟩:=M1 hR _ _ _ _ _ hrep h
      refine ⟨.agg cells',_,run_build V.w t _ cells' ?_,g2,g3⟩
      unfold Program.built
      simp only [hi,hu,hz,hie,hpl,Value.cells]
      exact g1
     ·cases hb
    ·cases hb
   ·cases hb
  ·exact h.elim

/-! ### operators of one operand -/
def wUn (op:UnOp) (p:PVal) (K:PVal→Prop):Prop :=
 match op,p with
 | .neg,.int k n=>K (.int k (k.wrap (0 - n)))
 | .not,.bool b=>K (.bool (!b))
 | .xor,.int k n=>K (.int k (Go.bits .xor k (if k.signed then -1 else k.max) n))
 | _,_=>False
theorem Aaq {op:UnOp} {p:PVal} {v:Value} (hp:Rep V p v) {K:PVal→Prop} (h:wUn op p K) (P:Program) (w:World):∃ u q,(Op.unary op v).run P w=.ok u w∧Rep V q u∧K q:=by
 unfold wUn at h
 split at h
 ·rename_i k n
  cases hp;exact ⟨.int k (k.wrap (0 - n)),_,by simp [Op.unary,Op.intArith],.int,h⟩
 ·rename_i b
  cases hp;exact ⟨.bool (!b),_,by simp [Op.unary],.bool,h⟩
 ·rename_i k n
  cases hp;exact ⟨.int k (Go.bits .xor k (if k.signed then -1 else k.max) n),_,by simp [Op.unary,intBits_xor],.int,h⟩
 ·exact h.elim

/-! ### nil checks, interfaces, function values, tuples -/
def Da (p:PVal) (σ:St) (K:PVal→Prop):Prop :=
 match p with
 | .ptr r i o=>match Ao σ.o σ.l r with
   | some (.row _ _ _)=>K (.ptr r i o)
   | some (.iter _ _)=>K (.ptr r i o)
   | _=>False
 | .eptr x o=>K (.eptr x o)
 | .gptr g o=>K (.gptr g o)
 | .iface t v=>K (.iface t v)
 | .fn (.func f) a b=>K (.fn (.func f) a b)
 | _=>False

def ckV:Value→Prop
 | .pointer (some _) | .iface _ _ | .func (.func _) _ _=>True
 | _=>False

theorem Lc (hM:MemRel C V (Ao σ.o σ.l)) {r:Ref} {k:Blk} (hB:Ao σ.o σ.l r=some k) (hk:k≠.dead) (hd:V.loc r=.dead):False:=by
 have:=hM.blk _ _ hB
 cases k with
 | dead=>exact hk rfl
 | row=>rcases this with ⟨h1,_⟩ | ⟨_,_,_,_,h1,_⟩ <;> rw [h1] at hd <;> cases hd
 | mp=>obtain ⟨_,_,_,h1,_⟩:=this;rw [h1] at hd;cases hd
 | iter=>obtain ⟨_,h1,_⟩:=this;rw [h1] at hd;cases hd

theorem Pt (hM:MemRel C V (Ao σ.o σ.l)) {p:PVal} {v:Value} (hp:Rep V p v) {K:PVal→Prop} (h:Da p σ K) :
  ∃ q,Rep V q v∧K q∧ckV v:=by
 unfold Da at h
 split at h
 ·split at h
  ·rename_i hB
   cases hp with
   | ptr hl=>exact ⟨_,.ptr hl,h,trivial⟩
   | ptrDead hd _=>exact (Lc hM hB (by simp) hd).elim
  ·rename_i hB
   cases hp with
   | ptr hl=>exact ⟨_,.ptr hl,h,trivial⟩
   | ptrDead hd _=>exact (Lc hM hB (by simp) hd).elim
  ·exact h.elim
 ·cases hp with
  | eptr g a b c d=>exact ⟨_,.eptr g a b c d,h,trivial⟩
 ·cases hp;exact ⟨_,.gptr,h,trivial⟩
 ·cases hp with
  | iface hp=>exact ⟨_,.iface hp,h,trivial⟩
 ·cases hp with
  | fn a b c d=>exact ⟨_,.fn a b c d,h,trivial⟩
 ·exact h.elim

def ccq (P:Program) (t:TypeId):Bool :=
 match P.underlying t with
 | some (.interface _)=>false
 | some _=>true
 | none=>false
def H9 (C:Ctx) (t:TypeId) (p:PVal) (K:PVal→Prop):Prop:=ccq C.P t=true∧K (.iface t p)
theorem Oe {t:Nat} {p:PVal} {v:Value} (hp:Rep V p v) {K:PVal→Prop} (h:H9 C t p K):∃ u q,(Instr.makeInterface t v).run C.P V.w=.ok u V.w∧Rep V q u∧K q:=by
 obtain ⟨hc,h⟩:=h
 refine ⟨.iface t v,_,?_,.iface hp,h⟩
 unfold ccq at hc
 split at hc
 ·cases hc
 ·rename_i d hne hu
  unfold Instr.makeInterface
  rw [Sem.run_bind,run_underlying hu]
  simp only [Result.andThen_ok]
  rfl
 ·cases hc

def D9 (p:PVal) (i:Nat) (K:PVal→Prop):Prop :=
 match p with
 | .tuple ps=>match ps[i]? with
   | some q=>K q
   | none=>False
 | _=>False
theorem Qv {p:PVal} {v:Value} (hp:Rep V p v) {i:Nat} {K:PVal→Prop} (h:D9 p i K) (P:Program) (w:World):∃ u q,(Instr.extract v i).run P w=.ok u w∧Rep V q u∧K q:=by
 unfold D9 at h
 split at h
 ·split at h
  ·rename_i q hq
   cases hp with
   | tuple hl hr =>
     rename_i vs
     have hlt:=(List.getElem?_eq_some_iff.1 hq).1
     have:vs[i]? = some (vs.getD i undef):=by rw [Array.getD_eq_getD_getElem?,Array.getElem?_eq_getElem (by omega)];rfl
     exact ⟨vs.getD i undef,q,by unfold Instr.extract;simp only [this];rfl,hr _ _ hq,h⟩
  ·exact h.elim
 ·exact h.elim

/-! ### conversions of numbers; of strings to strings -/
def inq (P:Program) (t:TypeId):Option IntKind :=
 match P.underlying t with
 | some (.int k)=>some k
 | _=>none
theorem Xd {P:Program} {t:TypeId} {k:IntKind} (h:inq P t=some k):P.underlying t=some (.int k):=by
 unfold inq at h;split at h
 ·cases h;assumption
 ·cases h

/-! ### len, min, max -/
def Qs (C:Ctx) (t:TypeId) (p:PVal) (K:PVal→Prop):Prop :=
 match p with
 | .str s=>C.P.underlying t=some .string∧K (.int .i64 s.length)
 | .slc xs=>(slq C.P t).isSome=true∧K (.int .i64 xs.length)
 | .ref _ _ n=>(slq C.P t).isSome=true∧K (.int .i64 n)
 | .nils=>(slq C.P t).isSome=true∧K (.int .i64 0)
 | .agg _=>match aq C.P t with
   | some (n,_)=>K (.int .i64 n)
   | none=>False
 | _=>False
theorem Xy {t:Nat} {p:PVal} {v:Value} (hp:Rep V p v) (hd:∀ r o n,p=.ref r o n→V.loc r≠.dead) {K:PVal→Prop} (h:Qs C t p K) (ty:TypeId) :
  ∃ u q,(Builtin.len_ #[t] ty #[v]).run C.P V.w=.ok u V.w∧Rep V q u∧K q:=by
 have hsl:(slq C.P t).isSome=true→∃ e,C.P.underlying t=some (.slice e):=fun h=>by
  obtain ⟨⟨e,n,b⟩,hq⟩:=Option.isSome_iff_exists.1 h
  obtain ⟨_,_,hu,_⟩:=Fv hq
  exact ⟨e,hu⟩
 unfold Qs at h
 split at h
 ·rename_i s
  obtain ⟨hu,h⟩:=h
  cases hp
  have hsz:(⟨⟨s⟩⟩:ByteArray).size=s.length:=rfl
  exact ⟨.int .i64 s.length,_,by simp [Builtin.len_,run_underlying hu,goInt,hsz],.int,h⟩
 ·rename_i xs
  obtain ⟨hu,h⟩:=h
  obtain ⟨e,hu⟩:=hsl hu
  cases hp with
  | slcEmpty=>exact ⟨.int .i64 0,_,by simp [Builtin.len_,run_underlying hu,goInt],.int,h⟩
  | slc=>exact ⟨.int .i64 xs.length,_,by simp [Builtin.len_,run_underlying hu,goInt],.int,h⟩
 ·rename_i r o n
  obtain ⟨hu,h⟩:=h
  obtain ⟨e,hu⟩:=hsl hu
  cases hp with
  | ref=>exact ⟨.int .i64 n,_,by simp [Builtin.len_,run_underlying hu,goInt],.int,h⟩
  | refEmpty=>exact ⟨.int .i64 0,_,by simp [Builtin.len_,run_underlying hu,goInt],.int,h⟩
  | refDead hd' _=>exact absurd hd' (hd _ _ _ rfl)
 ·obtain ⟨hu,h⟩:=h
  obtain ⟨e,hu⟩:=hsl hu
  cases hp
  exact ⟨.int .i64 0,_,by simp [Builtin.len_,run_underlying hu,goInt],.int,h⟩
 ·split at h
  ·rename_i n e ha
   have hu:C.P.underlying t=some (.array n e):=by
    unfold aq at ha
    split at ha
    ·simp at ha;obtain ⟨rfl,rfl⟩:=ha;assumption
    ·cases ha
   cases hp
   exact ⟨.int .i64 n,_,by simp [Builtin.len_,run_underlying hu,goInt],.int,h⟩
  ·exact h.elim
 ·exact h.elim

def mn (a b:Int):Int:=if b < a then b else a
def mx (a b:Int):Int:=if b > a then b else a
end Go.V
namespace Go.V
open Go

variable {C:Ctx} {V:View} {σ:St}

/-- What the second argument of an append yields. -/
def Nh (C:Ctx) (tx:TypeId) (q:PVal) (σ:St):Option (List PVal) :=
 match q with
 | .slc ys=>if (slq C.P tx).isSome then some ys else none
 | .nils=>if (slq C.P tx).isSome then some [] else none
 | .ref r off len=>match Ao σ.o σ.l r with
   | some (.row elems _ _)=>if (slq C.P tx).isSome && decide (off + len≤elems.length) then some ((elems.drop off).take len) else none
   | _=>none
 | _=>none

def Ga (C:Ctx) (t tx:TypeId) (p q:PVal) (σ:St) (K:PVal→St→Prop):Prop :=
 match slq C.P t,Nh C tx q σ with
 | some _,some []=>match p with
   | .nils=>K .nils σ
   | .ref r off len=>match Ao σ.o σ.l r with
     | some (.row _ _ _)=>K (.ref r off len) σ
     | _=>False
   | _=>False
 | some (e,n,by'),some (y0::ys0)=>0 < n∧0 < (y0::ys0).length∧(∀ y∈y0::ys0,y.cells.length=n)∧match p with
   | .nils=>(y0::ys0).length * by'≤140737488355328∧(y0::ys0).length≤9223372036854775807∧K (.ref (.l σ.l.length) 0 (y0::ys0).length) (B8 σ (.row (y0::ys0) n e))
   | .ref r off len=>match Ao σ.o σ.l r with
     | some (.row elems size ty)=>size=n∧ty=e∧off + len=elems.length∧(len + (y0::ys0).length) * by'≤140737488355328∧len + (y0::ys0).length≤9223372036854775807 ∧
       K (.ref (.l σ.l.length) 0 (len + (y0::ys0).length)) (B8 (A1 σ r .dead) (.row (elems.drop off ++ (y0::ys0)) n e))
     | _=>False
   | _=>False
 | _,_=>False

/-- Cells 'news' hold the elements ys side by side. -/
def Holds (V:View) (n:Nat) (ys:List PVal) (news:List Value):Prop :=
 news.length=ys.length * n∧(∀ u∈news,u.oneCell'=true)∧∀ (i:Nat) (y:PVal) (j:Nat) (c:PVal),ys[i]? = some y→y.cells[j]? = some c→Rep V c (news.getD (i * n + j) undef)

theorem Holds.nil (V:View) (n:Nat):Holds V n [] []:=⟨by simp,fun u hu=>(by cases hu),fun j y _ _ hy=>(by simp at hy)⟩
theorem Holds.mono {V V':View} {n:Nat} {ys:List PVal} {news:List Value} (h:Holds V n ys news) (H:V.To V'):Holds V' n ys news:=⟨h.1,h.2.1,fun i y j c hy hc=>(h.2.2 i y j c hy hc).mono H⟩
theorem Holds.append {n:Nat} {xs ys:List PVal} {as bs:List Value} (h:Holds V n xs as) (k:Holds V n ys bs) (hx:∀ x∈xs,x.cells.length=n):Holds V n (xs ++ ys) (as ++ bs):=by
 refine ⟨by rw [List.length_append,h.1,k.1,List.length_append,Nat.add_mul],fun u hu=>(List.mem_append.1 hu).elim (h.2.1 u) (k.2.1 u),fun i y j c hy hc=>?_⟩
 rw [List.getD_eq_getElem?_getD]
 rcases Nat.lt_or_ge i xs.length with hi | hi
 ·rw [List.getElem?_append_left hi] at hy
  have hj:j < n:=by rw [←hx y (List.mem_of_getElem? hy)];exact (List.getElem?_eq_some_iff.1 hc).1
  have:i * n + n≤xs.length * n:=by rw [←Nat.succ_mul];exact Nat.mul_le_mul_right _ hi
  rw [List.getElem?_append_left (by rw [h.1];omega),← List.getD_eq_getElem?_getD]
  exact h.2.2 i y j c hy hc
 ·rw [List.getElem?_append_right hi] at hy
  have e:i * n=xs.length * n + (i - xs.length) * n:=by rw [←Nat.add_mul];congr 1;omega
  rw [List.getElem?_append_right (by rw [h.1,e];omega),← List.getD_eq_getElem?_getD,h.1,show i * n + j - xs.length * n=(i - xs.length) * n + j by rw [e];omega]
  exact k.2.2 _ y j c hy hc

/-- A part of a row. -/
theorem Wp {elems:List PVal} {size base:Nat} {cells:Array Value} (h4:base + elems.length * size≤cells.size)
  (h5:∀ n,n < cells.size→(cells.getD n undef).oneCell'=true) (h6:∀ (i:Nat) (x:PVal),elems[i]? = some x→x.cells.length=size)
  (h7:∀ (i:Nat) (x:PVal) (j:Nat) (c:PVal),elems[i]? = some x→x.cells[j]? = some c→Rep V c (cells.getD (base + i * size + j) undef)) (off len:Nat) (hle:off + len≤elems.length) :
  Holds V size ((elems.drop off).take len) ((cells.toList.drop (base + off * size)).take (len * size))∧∀ (j:Nat) (u:Value),((cells.toList.drop (base + off * size)).take (len * size))[j]? = some u→cells[base + off * size + j]? = some u:=by
 have hm:off * size + len * size≤elems.length * size:=by rw [←Nat.add_mul];exact Nat.mul_le_mul_right _ hle
 have hget:∀ (j:Nat) (u:Value),((cells.toList.drop (base + off * size)).take (len * size))[j]? = some u→cells[base + off * size + j]? = some u:=fun j u hu=>by
  rw [List.getElem?_take] at hu
  split at hu
  ·rw [List.getElem?_drop,Array.getElem?_toList] at hu;exact hu
  ·cases hu
 refine ⟨⟨?_,fun u hu=>?_,fun i y j c hy hc=>?_⟩,hget⟩
 ·rw [List.length_take,List.length_drop,Array.length_toList,List.length_take,List.length_drop,Nat.min_eq_left (by omega),Nat.min_eq_left (by omega)]
 ·obtain ⟨j,hj,rfl⟩:=List.getElem_of_mem hu
  have:=hget j _ (List.getElem?_eq_getElem hj)
  have hlt:=(Array.getElem?_eq_some_iff.1 this).1
  have h:=h5 _ hlt
  rw [Array.getD_eq_getD_getElem?,this] at h
  exact h
 ·rw [List.getElem?_take] at hy
  split at hy
  ·rename_i hi
   rw [List.getElem?_drop] at hy
   have hj:j < size:=by rw [←h6 _ y hy];exact (List.getElem?_eq_some_iff.1 hc).1
   have:i * size + size≤len * size:=by rw [←Nat.succ_mul];exact Nat.mul_le_mul_right _ hi
   have h:=h7 _ y j c hy hc
   rw [List.getD_eq_getElem?_getD,List.getElem?_take,if_pos (by omega),List.getElem?_drop,Array.getElem?_toList,← Array.getD_eq_getD_getElem?]
   rw [show base + off * size + (i * size + j)=base + (off + i) * size + j by rw [Nat.add_mul];omega]
   exact h
  ·cases hy

theorem src_rep (hM:MemRel C V (Ao σ.o σ.l)) {tx:TypeId} {q:PVal} {x:Value} (hq:Rep V q x) {n:Nat} (hn:0 < n) {ys:List PVal} (hs:Nh C tx q σ=some ys) (hc:∀ y∈ys,y.cells.length=n) (hpos:0 < ys.length) :
  ∃ news,Src C.P n tx x ys.length news V.w∧Holds V n ys news:=by
 have hkind:(slq C.P tx).isSome=true→∃ e',C.P.underlying tx=some (.slice e'):=fun h=>by
  obtain ⟨⟨e,m,b⟩,hq⟩:=Option.isSome_iff_exists.1 h
  obtain ⟨_,_,hu,_⟩:=Fv hq
  exact ⟨e,hu⟩
 unfold Nh at hs
 split at hs
 ·split at hs
  ·rename_i hk
   obtain ⟨e',hu⟩:=hkind hk
   cases hs
   cases hq with
   | slcEmpty=>simp at hpos
   | slc size f hown hb hcap hcc hss hx =>
     rename_i b off cap
     have hsz:size=n:=by
      have h0:ys[0]? = some ys[0]:=List.getElem?_eq_getElem hpos
      rw [←hss 0 _ h0];exact hc _ (List.getElem_mem _)
     subst hsz
     have hlen:((List.range (ys.length * size)).map f).length=ys.length * size:=by simp
     refine ⟨(List.range (ys.length * size)).map f,Src.ofSlice V.w hu ⟨b,off,none⟩ ys.length cap _ hlen (fun j u hu=>?_) (fun u hu=>?_),hlen,fun u hu=>?_,fun i y j c hy hcj=>?_⟩
     ·rw [List.getElem?_map,Option.map_eq_some_iff] at hu
      obtain ⟨m,hm,rfl⟩:=hu
      have hj:j < ys.length * size:=by
       have:=(List.getElem?_eq_some_iff.1 hm).1
       simpa using this
      have:m=j:=by rw [List.getElem?_range hj] at hm;cases hm;rfl
      subst this
      rw [Addr.add_lit]
      exact (hcc m hj).1
     ·obtain ⟨m,hm,rfl⟩:=List.mem_map.1 hu
      exact (hcc m (List.mem_range.1 hm)).2
     ·obtain ⟨m,hm,rfl⟩:=List.mem_map.1 hu
      exact (hcc m (List.mem_range.1 hm)).2
     ·have hi:i < ys.length:=(List.getElem?_eq_some_iff.1 hy).1
      have hj:j < size:=by rw [←hss i y hy];exact (List.getElem?_eq_some_iff.1 hcj).1
      have:i * size + size≤ys.length * size:=by rw [←Nat.succ_mul];exact Nat.mul_le_mul_right _ hi
      rw [List.getD_eq_getElem?_getD,List.getElem?_map,List.getElem?_range (by omega)]
      exact hx i y j c hy hcj
  ·cases hs
 ·split at hs
  ·cases hs;simp at hpos
  ·cases hs
 ·rename_i r off len
  split at hs
  ·rename_i elems size ty hB
   split at hs
   ·rename_i hk
    simp only [Bool.and_eq_true,decide_eq_true_eq] at hk
    obtain ⟨e',hu⟩:=hkind hk.1
    cases hs
    have hl:((elems.drop off).take len).length=len:=by simp;omega
    rw [hl] at hpos ⊢
    rcases hM.blk _ _ hB with ⟨_,h0⟩ | ⟨b',base',cells,fr,k1,k2,k3,k4,k5,k6,k7⟩
    ·subst h0;simp at hk;omega
    have hsz:size=n:=by
     have h0:elems[off]? = some elems[off]:=List.getElem?_eq_getElem (by omega)
     rw [←k6 off _ h0]
     refine hc _ (List.mem_of_getElem? (i:=0) ?_)
     rw [List.getElem?_take,if_pos hpos,List.getElem?_drop];exact h0
    subst hsz
    obtain ⟨hH,hget⟩:=Wp k4 k5 k6 k7 off len hk.2
    cases hq with
    | refDead hd _=>rw [k1] at hd;cases hd
    | refEmpty _=>omega
    | ref hloc hcap hshape =>
      rw [k1] at hloc;cases hloc
      have hlen:=hH.1
      rw [hl] at hlen
      refine ⟨_,Src.ofSlice V.w hu _ len _ _ hlen (fun j u hu=>?_) hH.2.1,hH⟩
      rw [Addr.add_lit]
      unfold World.cell?
      simp only [k2]
      exact hget j u hu
   ·cases hs
  ·cases hs
 ·cases hs

theorem Tk (w:World):w.drew.heap=w.heap:=rfl
theorem We (σ:St) (r:Ref) (k:Blk):(A1 σ r k).l.length=σ.l.length:=by cases r <;> simp [A1]
theorem P0 {r:Ref} {b base size k:Nat} (hr:V.loc r=.at b base size) {w':World} (h:OnlyAt b V.w w') (base':Nat):Later V ((V.kill r).adopt (.l k) w' b base' size) where
 size:=by simp [View.adopt,h.size]
 heap x _ hx:=h.heap x fun e=>hx r base size (by rw [e];exact hr)
 own _ _ h:=h
 kept _ _ h _:=h
 locs x b' p q _ hx:=by
  by_cases e:x=.l k
  ·subst e
   simp only [View.adopt,Az,Loc.at.injEq] at hx
   exact ⟨r,base,size,by rw [←hx.1];exact hr⟩
  ·simp only [View.adopt,B0 e,View.kill] at hx
   by_cases e':x=r
   ·subst e';simp [Az] at hx
   ·rw [B0 e'] at hx;exact ⟨x,p,q,hx⟩
 loc m hm:=by
  have h1:((V.kill r).adopt (.l k) w' b base' size).loc (.o m)=Ih V.loc r .dead (.o m):=B0 (loc:=Ih V.loc r .dead) (r:=.l k) (y:=.o m) (x:=.at b base' size) (by simp)
  rw [h1]
  by_cases e:Ref.o m=r
  ·right;rw [←e,Az]
  ·left;rw [B0 e]
 shape m b' p q _ _ ty x hs:=by
  show w'.shape? b'=_
  rw [h.shape' b'];exact hs
 os:=h.os
 tape:=h.tape
 output:=h.output

theorem Went.kill (hM:MemRel C V (Ao σ.o σ.l)) {r:Ref} {k:Blk} (hB:Ao σ.o σ.l r=some k):Went C V σ (V.kill r) (A1 σ r .dead) :=
 ⟨V.to_kill r,V.later_kill r,by rw [Ep hB];exact hM.kill r,Ni _ _ _,Nj _ _ _⟩
theorem Went.then {V' V'':View} {σ' σ'':St} (h:Went C V σ V' σ') (k:Went C V' σ' V'' σ''):Went C V σ V'' σ'' :=
 ⟨h.to.trans k.to,h.later.trans k.later,k.mem,k.e.trans h.e,k.d.trans h.d⟩
theorem Went.drew (hM:MemRel C V (Ao σ.o σ.l)):Went C V σ V.drew σ:=⟨V.to_drew,V.later_drew,hM.drew,rfl,rfl⟩

/-- A new row with some zeros behind. -/
theorem grown_row (hM:MemRel C V (Ao σ.o σ.l)) {e n:Nat} (ys:List PVal) (all:List Value) (hH:Holds V n ys all) (hc:∀ y∈ys,y.cells.length=n) (z:Value) (hz:z.cells.size=n) (hzs:(ofV z).solid=true) (extra:Nat) :
  Went C V σ (V.alloc (.l σ.l.length) (.cells (all.toArray ++ Builtin.zeroCells z.cells extra) e) n) (B8 σ (.row ys n e)):=by
 have hget:∀ m,m < all.length→(all.toArray ++ Builtin.zeroCells z.cells extra).getD m undef=all.getD m undef:=fun m hm=>by
  rw [Array.getD_eq_getD_getElem?,Array.getElem?_append_left (by simpa using hm),List.getElem?_toArray,← List.getD_eq_getElem?_getD]
 refine Nq hM _ e n ys (by simp [hH.1]) (fun m hm=>?_) (fun i x hx=>hc x (List.mem_of_getElem? hx)) (fun i x j c hx hcj=>?_)
 ·rcases Nat.lt_or_ge m all.length with h | h
  ·rw [hget m h]
   have:=hH.2.1 all[m] (List.getElem_mem h)
   rw [List.getD_eq_getElem?_getD,List.getElem?_eq_getElem h];exact this
  ·rw [Array.getD_eq_getD_getElem?,Array.getElem?_append_right (by simpa using h)]
   simp only [List.size_toArray]
   obtain ⟨c1,c2,_⟩:=E6 (J2 V z) hzs
   simp only [Array.size_append,List.size_toArray,size_zeroCells] at hm
   cases hq:(Builtin.zeroCells z.cells extra)[m - all.length]? with
   | none=>have:=Array.getElem?_eq_none_iff.1 hq;rw [size_zeroCells] at this;omega
   | some u =>
     have hmem:u∈Builtin.zeroCells z.cells extra:=Array.mem_of_getElem? hq
     have:u∈z.cells:=by
      simp only [Builtin.zeroCells] at hmem
      simp at hmem
      obtain ⟨a,ha,rfl⟩:=hmem
      have hlt:a % z.cells.size < z.cells.size:=Nat.mod_lt _ (by
       rcases Nat.eq_zero_or_pos z.cells.size with h0 | h0
       ·rw [h0] at ha;simp at ha
       ·exact h0)
      rw [getElem!_pos z.cells _ hlt]
      exact Array.getElem_mem hlt
     obtain ⟨j,hj,rfl⟩:=Array.getElem_of_mem this
     have:=c2 j (by omega)
     rw [Array.getD_eq_getD_getElem?,Array.getElem?_eq_getElem hj] at this
     exact this
 ·have hi:i < ys.length:=(List.getElem?_eq_some_iff.1 hx).1
  have hj:j < n:=by rw [←hc x (List.mem_of_getElem? hx)];exact (List.getElem?_eq_some_iff.1 hcj).1
  have:i * n + n≤ys.length * n:=by rw [←Nat.succ_mul];exact Nat.mul_le_mul_right _ hi
  rw [hget _ (by rw [hH.1];omega)]
  exact hH.2.2 i x j c hx hcj

theorem rep_grown {r:Ref} {all:List Value} {z:Array Value} {e n len cap:Nat} (ha:all.length=len * n) (hz:z.size=n) (hle:len≤cap) :
  Rep (V.alloc r (.cells (all.toArray ++ Builtin.zeroCells z (cap - len)) e) n) (.ref r 0 len) (.slice (some ⟨V.w.heap.size,0,none⟩) len cap):=by
 have:Rep (V.alloc r (.cells (all.toArray ++ Builtin.zeroCells z (cap - len)) e) n) (.ref r 0 len) (.slice (some ⟨V.w.heap.size,0 + 0 * n,none⟩) len cap) :=
  .ref (Az _ _ _) hle ⟨e,(all.toArray ++ Builtin.zeroCells z (cap - len)).size,by
   show (match (V.w.alloc (.cells (all.toArray ++ Builtin.zeroCells z (cap - len)) e)).heap[V.w.heap.size]? with
    | some (.cells c elem _)=>some (elem,c.size)
    | _=>none)=_
   rw [Dg],by
   simp only [Array.size_append,List.size_toArray,size_zeroCells,ha,hz,Nat.zero_add,← Nat.add_mul]
   rw [show len + (cap - len)=cap by omega];exact Nat.le_refl _⟩
 simpa using this

theorem Kx {P:Program} {w:World} {tx e':TypeId} (hu:P.underlying tx=some (.slice e')) (m:Nat) (a:Option Addr) (cap:Nat):Src P m tx (.slice a 0 cap) 0 [] w:=by
 have h0:∀ w:World,(Builtin.firstCells m 0 (.slice a 0 cap)).run P w=.ok #[] w:=fun w=>by
  cases a with
  | none=>simp [Builtin.firstCells]
  | some a=>simp only [Builtin.firstCells,Nat.zero_mul,loadCells,loadCellsFrom,Sem.run_pure]
 exact ⟨.inl ⟨e',hu⟩,fun w'=>by simp [Builtin.lenOf],h0 w,h0 w.drew,by simp,fun u hu=>by cases hu⟩
theorem src_none (hM:MemRel C V (Ao σ.o σ.l)) {tx:TypeId} {q:PVal} {x:Value} (hq:Rep V q x) {m:Nat} (hs:Nh C tx q σ=some []):Src C.P m tx x 0 [] V.w:=by
 have hkind:(slq C.P tx).isSome=true→∃ e',C.P.underlying tx=some (.slice e'):=fun h=>by
  obtain ⟨⟨e,m,b⟩,hq⟩:=Option.isSome_iff_exists.1 h
  obtain ⟨_,_,hu,_⟩:=Fv hq
  exact ⟨e,hu⟩
 unfold Nh at hs
 split at hs
 ·split at hs
  ·rename_i hk
   obtain ⟨e',hu⟩:=hkind hk
   cases hs
   cases hq with
   | slcEmpty=>exact Kx hu _ _ _
   | slc=>exact Kx hu _ _ _
  ·cases hs
 ·split at hs
  ·rename_i hk
   obtain ⟨e',hu⟩:=hkind hk
   cases hq
   exact Kx hu _ _ _
  ·cases hs
 ·rename_i r off len
  split at hs
  ·rename_i elems size ty hB
   split at hs
   ·rename_i hk
    simp only [Bool.and_eq_true,decide_eq_true_eq] at hk
    obtain ⟨e',hu⟩:=hkind hk.1
    have hl0:len=0:=by
     have:=congrArg List.length (Option.some.inj hs)
     simp at this;omega
    subst hl0
    cases hq with
    | refDead hd _=>exact (Lc hM hB (by simp) hd).elim
    | refEmpty _=>exact Kx hu _ _ _
    | ref _ _ _=>exact Kx hu _ _ _
   ·cases hs
  ·cases hs
 ·cases hs
theorem Sf (hM:MemRel C V (Ao σ.o σ.l)) {t tx:TypeId} {p q:PVal} {v x:Value} (hp:Rep V p v) (hq:Rep V q x) {K:PVal→St→Prop} (h:Ga C t tx p q σ K) (ty:TypeId) :
  ∃ V' σ' r u,(Builtin.append_ #[t,tx] ty #[v,x]).run C.P V.w=.ok u V'.w∧Went C V σ V' σ'∧Rep V' r u∧K r σ':=by
 unfold Ga at h
 split at h
 ·rename_i e0 hsl hsrc
  obtain ⟨e,n,by'⟩:=e0
  obtain ⟨i,z,hu,hi,hz,hsz,hby,hzc,hzs⟩:=Fv hsl
  have hS:Src C.P i.size tx x 0 [] V.w:=src_none hM hq hsrc
  split at h
  ·cases hp
   exact ⟨V,σ,.nils,.slice none 0 0,run_append_nothing V.w t tx ty e i hu hi none 0 0 (Nat.le_refl _) x hS,.refl hM,.nils,h⟩
  ·rename_i r off len
   split at h
   ·rename_i elems size ty' hB
    cases hp with
    | refDead hd _=>exact (Lc hM hB (by simp) hd).elim
    | refEmpty hl=>exact ⟨V,σ,.ref r off 0,_,run_append_nothing V.w t tx ty e i hu hi _ 0 0 (Nat.le_refl _) x hS,.refl hM,.refEmpty hl,h⟩
    | ref hl hcap hs=>exact ⟨V,σ,.ref r off len,_,run_append_nothing V.w t tx ty e i hu hi _ _ _ hcap x hS,.refl hM,.ref hl hcap hs,h⟩
   ·exact h.elim
  ·exact h.elim
 ·rename_i e n by' y0 ys0 hsl hsrc
  generalize y0::ys0=ys at h hsrc
  obtain ⟨hn,hpos,hc,h⟩:=h
  obtain ⟨i,z,hu,hi,hz,hsz,hby,hzc,hzs⟩:=Fv hsl
  subst hsz hby
  obtain ⟨news,hS,hH⟩:=src_rep hM hq hn hsrc hc hpos
  -- the arm that grows
  have grow:∀ {V1:View} {σ1:St} (base:Option Addr) (sLen sCap:Nat) (xs:List PVal) (olds:List Value),Went C V σ V1 σ1→V1.w=V.w→σ1.l.length=σ.l.length→xs.length=sLen→(∀ y∈xs,y.cells.length=i.size)→Holds V i.size xs olds →
    (Builtin.firstCells i.size sLen (.slice base sLen sCap)).run C.P V.w.drew=.ok olds.toArray V.w.drew→sCap < sLen + ys.length→(sLen + ys.length) * i.bytes≤140737488355328→sLen + ys.length≤9223372036854775807 →
    K (.ref (.l σ.l.length) 0 (sLen + ys.length)) (B8 σ1 (.row (xs ++ ys) i.size e)) →
    ∃ V' σ' r u,(Builtin.append_ #[t,tx] ty #[.slice base sLen sCap,x]).run C.P V.w=.ok u V'.w∧Went C V σ V' σ'∧Rep V' r u∧K r σ':=fun {V1 σ1} base sLen sCap xs olds hW hw hl hx hxc hold hf hg hb hm hK=>by
   have hr:=run_append_grow_src V.w t tx ty e i z hu hi hz base sLen sCap olds hf x ys.length news hS hg (by omega) (growslice_fits hg hb)
   have hge:=grownCap_ge V.w (sLen + ys.length) sCap e
   have hall:Holds V1.drew i.size (xs ++ ys) (olds ++ news):=((hold.append hH hxc).mono hW.to).mono V1.to_drew
   have hW2:=grown_row (V:=V1.drew) (σ:=σ1) (e:=e) hW.mem.drew (xs ++ ys) (olds ++ news) hall (fun y hy=>(List.mem_append.1 hy).elim (hxc y) (hc y)) z hzc hzs (grownCap V.w (sLen + ys.length) sCap e - (sLen + ys.length))
   have hlen:(olds ++ news).length=(sLen + ys.length) * i.size:=by rw [List.length_append,hold.1,hH.1,hx,Nat.add_mul]
   refine ⟨(V1.drew).alloc (.l σ1.l.length) (.cells ((olds ++ news).toArray ++ Builtin.zeroCells z.cells (grownCap V.w (sLen + ys.length) sCap e - (sLen + ys.length))) e) i.size,_,.ref (.l σ.l.length) 0 (sLen + ys.length),.slice (some ⟨V.w.heap.size,0,none⟩) (sLen + ys.length) (grownCap V.w (sLen + ys.length) sCap e),?_,(hW.then (.drew hW.mem)).then hW2,?_,hK⟩
   ·rw [hr]
    simp only [View.alloc,View.drew,hw]
   ·have:=rep_grown (V:=V1.drew) (r:=.l σ1.l.length) (e:=e) (all:=olds ++ news) (z:=z.cells) hlen hzc hge
    rw [hl] at this
    rw [hl]
    simpa only [View.drew,hw,Tk] using this
  split at h
  ·obtain ⟨hb,hm,hK⟩:=h
   cases hp
   have hn0:Holds V i.size [] []:=.nil V _
   have:=grow (V1:=V) (σ1:=σ) none 0 0 [] [] (.refl hM) rfl rfl rfl (fun y hy=>by cases hy) hn0 (run_firstCells_none _ _ _ _ _) (by omega) (by simpa using hb) (by omega) (by simpa using hK)
   exact this
  ·rename_i r off len
   split at h
   ·rename_i elems size ty' hB
    obtain ⟨rfl,rfl,hol,hb,hm,hK⟩:=h
    have hkl:(A1 σ r .dead).l.length=σ.l.length:=(We σ r .dead)
    rcases hM.blk _ _ hB with ⟨k1,h0⟩ | ⟨b,base,cells,fr,k1,k2,k3,k4,k5,k6,k7⟩
    ·subst h0
     have hl0:len=0:=by simp at hol;omega
     subst hl0
     have hn0:Holds V i.size [] []:=.nil V _
     cases hp with
     | refDead hd _=>rw [k1] at hd;cases hd
     | ref hl _ _=>rw [k1] at hl;cases hl
     | @refEmpty _ _ a _ =>
       refine grow (V1:=V.kill r) (σ1:=A1 σ r .dead) a 0 0 [] [] (.kill hM hB) rfl hkl rfl (fun y hy=>by cases hy) hn0 ?_ (by omega) hb hm (by simpa using hK)
       cases a with
       | none=>exact run_firstCells_none _ _ _ _ _
       | some a=>exact run_firstCells_some _ _ _ _ _ _ _ (by simp) (fun j v hv=>by simp at hv)
    ·have hdl:elems.drop off=(elems.drop off).take len:=by rw [List.take_of_length_le (by simp;omega)]
     have hxl:(elems.drop off).length=len:=by simp;omega
     obtain ⟨hP,hget⟩:=Wp k4 k5 k6 k7 off len (by omega)
     rw [←hdl] at hP
     have hxc:∀ y∈elems.drop off,y.cells.length=i.size:=fun y hy=>by
      obtain ⟨j,hj⟩:=List.getElem?_of_mem (List.mem_of_mem_drop hy)
      exact k6 j y hj
     have hplen:((cells.toList.drop (base + off * i.size)).take (len * i.size)).length=len * i.size:=by rw [hP.1,hxl]
     cases hp with
     | refDead hd _=>rw [k1] at hd;cases hd
     | @refEmpty _ _ a _ =>
       have hp0:(cells.toList.drop (base + off * i.size)).take (0 * i.size)=[]:=by simp
       refine grow (V1:=V.kill r) (σ1:=A1 σ r .dead) a 0 0 (elems.drop off) _ (.kill hM hB) rfl hkl hxl hxc hP ?_ (by omega) hb hm hK
       rw [hp0]
       cases a with
       | none=>exact run_firstCells_none _ _ _ _ _
       | some a=>exact run_firstCells_some _ _ _ _ _ _ _ (by simp) (fun j v hv=>by simp at hv)
     | ref hl hcap hshape =>
       rw [k1] at hl;cases hl
       rename_i cap
       obtain ⟨ty2,nc,hs1,hs2⟩:=hshape
       have hnc:nc=cells.size:=by
        unfold World.shape? at hs1
        simp only [k2] at hs1
        cases hs1;rfl
       subst hnc
       rcases Nat.lt_or_ge cap (len + ys.length) with hg | hroom
       ·refine grow (V1:=V.kill r) (σ1:=A1 σ r .dead) _ len cap (elems.drop off) _ (.kill hM hB) rfl hkl hxl hxc hP ?_ hg hb hm hK
        refine run_firstCells_some _ _ _ _ _ _ _ hplen (fun j v hv=>?_)
        rw [Addr.add_lit]
        unfold World.cell?
        simp only [Tk,k2]
        exact hget j v hv
       ·-- there is room: the row goes on under a new name
        have hend:base + off * i.size + len * i.size=base + elems.length * i.size:=by rw [←hol,Nat.add_mul];omega
        have hfits:base + off * i.size + len * i.size + news.length≤cells.size:=by
         rw [hH.1,Nat.add_assoc,← Nat.add_mul]
         have:(len + ys.length) * i.size≤cap * i.size:=Nat.mul_le_mul_right _ hroom
         rw [Nat.add_mul] at hs2
         omega
        have hrun:=run_append_room_src V.w t tx ty _ i hu hi b (base + off * i.size) len cap x ys.length news hS hroom
         (fun j hj=>by rw [It k2 (by omega)];rfl) (fun j hj=>k3 _ (by omega))
        obtain ⟨cells',g1,g2,g3⟩:=G8 b _ fr news _ V.w cells k2 hfits
        have honly:=Kh k2 hfits
        have hMk:=hM.kill r
        have hfresh:upd (Ao σ.o σ.l) r .dead (.l σ.l.length)=none:=by
         rw [Kt (fun e=>by rw [←e,Fe] at hB;cases hB)];exact Fe σ
        have hTo:V.To ((V.kill r).adopt (.l σ.l.length) (V.w.setCells b (base + off * i.size + len * i.size) news) b (base + off * i.size) i.size) :=
         (V.to_kill r).trans (Mh (V:=V.kill r) honly (hM.own _ _ _ _ k1) (hMk.out _ hfresh) _ _)
        refine ⟨_,B8 (A1 σ r .dead) (.row (elems.drop off ++ ys) i.size _),.ref (.l σ.l.length) 0 (len + ys.length),_,hrun,⟨hTo,P0 k1 honly _,?_,?_,?_⟩,?_,hK⟩
        ·rw [M4,Ep hB,hkl]
         refine hMk.adopt (V:=V.kill r) honly (hM.own _ _ _ _ k1) hfresh _ _ (fun r' x' y' hr'=>?_) _ ?_
         ·by_cases e:r'=r
          ·subst e;simp [View.kill,Az] at hr'
          ·simp only [View.kill,B0 e] at hr'
           exact e (hM.inj _ _ _ _ _ _ _ hr' k1)
         ·refine .inr ⟨b,base + off * i.size,cells',fr,Az _ _ _,g1,fun m hm'=>?_,?_,fun m hm'=>?_,fun j y hy=>?_,fun j y m c hy hcy=>?_⟩
          ·show (V.w.setCells b (base + off * i.size + len * i.size) news).frozen? ⟨b,m,none⟩=false
           rw [World.frozen?_setCells];exact k3 m (by omega)
          ·rw [List.length_append,hxl,g2,Nat.add_mul]
           have:=hH.1
           omega
          ·rw [g3 m]
           split
           ·rename_i hin
            have hlt:m - (base + off * i.size + len * i.size) < news.length:=by omega
            rw [List.getD_eq_getElem?_getD,List.getElem?_eq_getElem hlt]
            exact hH.2.1 _ (List.getElem_mem hlt)
           ·exact k5 m (by omega)
          ·rcases List.mem_append.1 (List.mem_of_getElem? hy) with h | h
           ·exact hxc y h
           ·exact hc y h
          ·refine Rep.mono hTo ?_
           rw [g3]
           rcases Nat.lt_or_ge j len with hj | hj
           ·rw [List.getElem?_append_left (by omega)] at hy
            have hm':m < i.size:=by rw [←hxc y (List.mem_of_getElem? hy)];exact (List.getElem?_eq_some_iff.1 hcy).1
            have:j * i.size + i.size≤len * i.size:=by rw [←Nat.succ_mul];exact Nat.mul_le_mul_right _ hj
            rw [if_neg (by omega)]
            rw [List.getElem?_drop] at hy
            have:=k7 (off + j) y m c hy hcy
            rw [Nat.add_mul] at this
            rw [show base + off * i.size + j * i.size + m=base + (off * i.size + j * i.size) + m by omega]
            exact this
           ·rw [List.getElem?_append_right (by omega),hxl] at hy
            have hm':m < i.size:=by rw [←hc y (List.mem_of_getElem? hy)];exact (List.getElem?_eq_some_iff.1 hcy).1
            have hjl:j - len < ys.length:=(List.getElem?_eq_some_iff.1 hy).1
            have e1:j * i.size=len * i.size + (j - len) * i.size:=by rw [←Nat.add_mul];congr 1;omega
            have:(j - len) * i.size + i.size≤ys.length * i.size:=by rw [←Nat.succ_mul];exact Nat.mul_le_mul_right _ hjl
            rw [if_pos (by rw [hH.1];omega),show base + off * i.size + j * i.size + m - (base + off * i.size + len * i.size)=(j - len) * i.size + m by omega]
            exact hH.2.2 _ y m c hy hcy
        ·rw [show (B8 (A1 σ r .dead) (.row (elems.drop off ++ ys) i.size _)).e=(A1 σ r .dead).e from rfl,Ni]
        ·rw [show (B8 (A1 σ r .dead) (.row (elems.drop off ++ ys) i.size _)).d=(A1 σ r .dead).d from rfl,Nj]
        ·have:Rep ((V.kill r).adopt (.l σ.l.length) (V.w.setCells b (base + off * i.size + len * i.size) news) b (base + off * i.size) i.size) (.ref (.l σ.l.length) 0 (len + ys.length)) (.slice (some ⟨b,base + off * i.size + 0 * i.size,none⟩) (len + ys.length) cap) :=
          .ref (Az _ _ _) hroom ⟨_,cells.size,by
           show (V.w.setCells b (base + off * i.size + len * i.size) news).shape? b=_
           rw [honly.shape' b];exact hs1,by rw [Nat.zero_add];rw [Nat.add_mul] at hs2;omega⟩
         simpa using this
   ·exact h.elim
  ·exact h.elim
 ·exact h.elim
/-! ### make -/
def Dz (C:Ctx) (t:TypeId) (p q:PVal) (σ:St) (K:PVal→St→Prop):Prop :=
 match p,q with
 | .int _ l,.int _ c=>match slq C.P t with
   | some (e,n,by')=>match tz C.P e with
     | some z=>0 < n∧0≤l∧l≤c∧c.toNat * n≤16777216∧(by':Int) * c≤281474976710656∧c≤9223372036854775807 ∧
       K (.ref (.l σ.l.length) 0 l.toNat) (B8 σ (.row (List.replicate l.toNat z) n e))
     | none=>False
   | none=>False
 | _,_=>False
theorem Od (hM:MemRel C V (Ao σ.o σ.l)) {t:TypeId} {p q:PVal} {v x:Value} (hp:Rep V p v) (hq:Rep V q x) {K:PVal→St→Prop} (h:Dz C t p q σ K) :
  ∃ V' σ' r u,(Instr.makeSlice t v x).run C.P V.w=.ok u V'.w∧Went C V σ V' σ'∧Rep V' r u∧K r σ':=by
 unfold Dz at h
 split at h
 ·rename_i kl l kc c
  cases hp;cases hq
  split at h
  ·rename_i e n by' hsl
   split at h
   ·rename_i z htz
    obtain ⟨hn,h0,hlc,hsm,hby,h63,hK⟩:=h
    obtain ⟨i,zv,hu,hi,hz,rfl,rfl,hzc,hzs⟩:=Fv hsl
    have hzz:z=ofV zv:=by
     simp only [tz,hi,Option.bind_some,hz,Option.map_some,Option.some.injEq] at htz
     exact htz.symm
    subst hzz
    obtain ⟨c1,c2,c3⟩:=E6 (J2 V zv) hzs
    have hrun:=run_makeSlice (P:=C.P) V.w t e i zv hu hi hz kl kc l c h0 hlc hsm hby h63
    have hget:∀ m,m < c.toNat * i.size→(madeCells zv.cells (c.toNat * i.size)).getD m undef=zv.cells.getD (m % i.size) undef:=fun m hm=>by
     have hlt:m % zv.cells.size < zv.cells.size:=Nat.mod_lt _ (by omega)
     rw [Array.getD_eq_getD_getElem?,Array.getD_eq_getD_getElem?,← hzc]
     simp only [madeCells,Array.getElem?_map,Array.getElem?_range,hzc,hm,if_true,Option.map_some,Option.getD_some]
     rw [hzc] at hlt
     rw [Array.getElem?_eq_getElem (by omega),getElem!_pos zv.cells _ (by omega)];rfl
    have hW:=Nq hM (madeCells zv.cells (c.toNat * i.size)) e i.size (List.replicate l.toNat (ofV zv))
     (by rw [List.length_replicate,size_madeCells];exact Nat.mul_le_mul_right _ (by omega))
     (fun m hm=>by
      rw [size_madeCells] at hm
      rw [hget m hm]
      exact c2 _ (by rw [←c1,hzc];exact Nat.mod_lt _ hn))
     (fun j y hy=>by
      have:=List.eq_of_mem_replicate (List.mem_of_getElem? hy)
      rw [this,← c1,hzc])
     (fun j y m cc hy hc=>by
      have hjl:j < l.toNat:=by
       have:=(List.getElem?_eq_some_iff.1 hy).1
       rwa [List.length_replicate] at this
      have:=List.eq_of_mem_replicate (List.mem_of_getElem? hy)
      subst this
      have hm:m < i.size:=by rw [←hzc,c1];exact (List.getElem?_eq_some_iff.1 hc).1
      have h1:j * i.size + i.size≤c.toNat * i.size:=by rw [←Nat.succ_mul];exact Nat.mul_le_mul_right _ (by omega)
      rw [hget _ (by omega),Nat.add_comm,Nat.add_mul_mod_self_right,Nat.mod_eq_of_lt hm]
      exact c3 m cc hc)
    refine ⟨_,_,.ref (.l σ.l.length) 0 l.toNat,_,hrun,hW,?_,hK⟩
    have:Rep (V.alloc (.l σ.l.length) (.cells (madeCells zv.cells (c.toNat * i.size)) e) i.size) (.ref (.l σ.l.length) 0 l.toNat) (.slice (some ⟨V.w.heap.size,0 + 0 * i.size,none⟩) l.toNat c.toNat) :=
     .ref (Az _ _ _) (by omega) ⟨e,c.toNat * i.size,by
      show (match (V.w.alloc (.cells (madeCells zv.cells (c.toNat * i.size)) e)).heap[V.w.heap.size]? with
       | some (.cells c elem _)=>some (elem,c.size)
       | _=>none)=_
      rw [Dg];simp only [size_madeCells],by simp⟩
    simpa using this
   ·exact h.elim
  ·exact h.elim
 ·exact h.elim
end Go.V
namespace Go.V
open Go

/-! ### The ends of a call, what a call is to its caller, what a function does -/
inductive PRes where
 | ret (p:PVal)
 | pan (p:PVal)

def Ji (V:View):PRes→Ending→Prop
 | .ret p,.returned v=>Rep V p v
 | .pan p,.panicked chain=>∃ v,chain=[{ v,recovered:=false }]∧Rep V p v
 | _,_=>False

def okF (P:Program) (f:FuncId):Bool :=
 match P.funcs[f]? with
 | some fn=>fn.body.isSome && !(fn.name == "runtime.NumGoroutine")
 | none=>false

/-- What the call of function g with these arguments means to the caller. -/
def CallW (C:Ctx) (g:FuncId) (args:List PVal) (σ:St) (K KP:PVal→St→Prop):Prop :=
 okF C.P g=true∧∀ V vs,MemRel C V (Ao σ.o σ.l)→Ca V args vs→Calls C.P g vs V.w fun e w'=>∃ V' σ' r,V'.w=w'∧Went C V σ V' σ'∧Ji V' r e ∧
  (match r with | .ret p=>K p σ' | .pan p=>KP p σ')

/-- THE MEANING OF A FUNCTION: called with these arguments, where the blocks 'st' are handed to it (as '.o 0', '.o 1', ..), it ends with R. -/
def FSem (C:Ctx) (f:FuncId) (args:List PVal) (st:List Blk) (R:PRes→List Blk→Prop):Prop :=
 okF C.P f=true∧∀ V vs,MemRel C V (Ao st [])→Ca V args vs→Calls C.P f vs V.w fun e w'=>∃ V' st' r,V'.w=w'∧V.To V'∧Later V V'∧MemRel C V' (Ao st' [])∧Ji V' r e∧R r st'

/-! ### Builtins and conversions -/
def Cp (C:Ctx) (b:Builtin) (ts:Array TypeId) (args:List PVal) (σ:St) (K KP:PVal→St→Prop):Prop :=
 match b with
 | .len=>match args,ts.toList with
   | [p],[t]=>(match p with | .ref r _ _=>(match Ao σ.o σ.l r with | some (.row _ _ _)=>True | _=>False) | _=>True)∧Qs C t p fun q=>K q σ
   | _,_=>False
 | .min=>match args with
   | [.int k a,.int _ b]=>K (.int k (mn a b)) σ
   | _=>False
 | .max=>match args with
   | [.int k a,.int _ b]=>K (.int k (mx a b)) σ
   | _=>False
 | .panic=>match args with
   | [.iface t v]=>KP (.iface t v) σ
   | _=>False
 | .append=>match args,ts.toList with
   | [p,q],[t,tx]=>Ga C t tx p q σ K
   | _,_=>False
 | _=>False

/-- A slice type of bytes. -/
def byq (P:Program) (t:TypeId):Bool :=
 match P.underlying t with
 | some (.slice e)=>match P.underlying e with
   | some (.int .u8)=>true
   | _=>false
 | _=>false
theorem byq_spec {P:Program} {t:TypeId} (h:byq P t=true):∃ e,P.underlying t=some (.slice e)∧P.underlying e=some (.int .u8):=by
 unfold byq at h
 split at h
 ·rename_i e he
  split at h
  ·exact ⟨e,he,by assumption⟩
  ·cases h
 ·cases h
/-- The bytes of a row of bytes. -/
def N6:List PVal→Option (List UInt8)
 | []=>some []
 | .int .u8 n::r=>(N6 r).map (UInt8.ofNat n.toNat::·)
 | _::_=>none
theorem N5:∀ {xs:List PVal} {bs:List UInt8},N6 xs=some bs→∃ ns:List Int,xs=ns.map (.int .u8)∧bs=ns.map fun n=>UInt8.ofNat n.toNat
 | [],bs,h=>by cases h;exact ⟨[],rfl,rfl⟩
 | x::r,bs,h=>by
   unfold N6 at h
   split at h
   ·rename_i h0;cases h0
   ·rename_i n r' h0
    cases h0
    simp only [Option.map_eq_some_iff] at h
    obtain ⟨b,hb,rfl⟩:=h
    obtain ⟨ns,rfl,rfl⟩:=N5 hb
    exact ⟨n::ns,rfl,rfl⟩
   ·cases h
theorem Tm:∀ (ns:List Int) (s:ByteArray),ns.foldl (fun r n=>r.push (UInt8.ofNat n.toNat)) s=⟨⟨s.data.toList ++ ns.map fun n=>UInt8.ofNat n.toNat⟩⟩
 | [],s=>by simp
 | n::ns,s=>by
   rw [List.foldl_cons,Tm ns]
   simp [ByteArray.push]

def Kr (C:Ctx) (s d:TypeId) (p:PVal) (σ:St) (K:PVal→St→Prop):Prop :=
 match p with
 | .int _ n=>match inq C.P s,inq C.P d with
   | some _,some k=>K (.int k (k.wrap n)) σ
   | _,_=>False
 | .str x=>C.P.underlying s=some .string∧C.P.underlying d=some .string∧K (.str x) σ
 | .slc xs=>byq C.P s=true∧C.P.underlying d=some .string∧match N6 xs with
   | some bs=>K (.str bs) σ
   | none=>False
 | _=>False

def Sx (C:Ctx) (c:Call) (σ:St) (K KP:PVal→St→Prop):Prop :=
 match c.callee with
 | .builtin b=>Cp C b c.argTypes (c.args.toList.map (val σ.e)) σ K KP
 | .value f=>match val σ.e f with
   | .fn (.func g) first caps=>CallW C g (first ++ (c.args.toList.map (val σ.e) ++ caps)) σ K KP
   | _=>False
 | .invoke _ _=>False

def wOp (C:Ctx) (op:Op) (σ:St) (K KP:PVal→St→Prop):Prop :=
 match op with
 | .move x=>K (val σ.e x) σ
 | .assign x=>K (val σ.e x) σ
 | .pick c a b=>match val σ.e c with
   | .bool t=>(t=true→K (val σ.e a) σ)∧(t=false→K (val σ.e b) σ)
   | _=>False
 | .alloc e=>Jb C e σ K
 | .box e x=>Ub e (val σ.e x) σ K
 | .build t ps=>Fp C t ps σ.e fun q=>K q σ
 | .buildSlice t n ps=>C7 C t n ps σ K
 | .makeSlice t x y=>Dz C t (val σ.e x) (val σ.e y) σ K
 | .load t x=>Ia C t (val σ.e x) σ fun q=>K q σ
 | .store t a v=>Hi C t (val σ.e a) (val σ.e v) σ fun σ'=>K .any σ'
 | .nilCheck x=>Da (val σ.e x) σ fun q=>K q σ
 | .binOp op t x y _=>Oi C op t x y (val σ.e x) (val σ.e y) σ fun q=>K q σ
 | .unOp op _ x=>wUn op (val σ.e x) fun q=>K q σ
 | .convert s d x=>Kr C s d (val σ.e x) σ K
 | .makeInterface t x=>H9 C t (val σ.e x) fun q=>K q σ
 | .makeFunc f first caps=>K (.fn f (first.toList.map (val σ.e)) (caps.toList.map (val σ.e))) σ
 | .slice t x lo hi mx=>mx=none∧Hj C t (val σ.e x) (lo.map (val σ.e)) (hi.map (val σ.e)) σ fun q=>K q σ
 | .fieldAddr s x f=>Cw C s (val σ.e x) f σ fun q=>K q σ
 | .field t x f=>G1 C t (val σ.e x) f fun q=>K q σ
 | .indexAddr t x i=>Cv C t (val σ.e x) (val σ.e i) σ fun q=>K q σ
 | .index t x i=>G0 C t (val σ.e x) (val σ.e i) fun q=>K q σ
 | .lookup t x i ok=>Fg C t (val σ.e x) (val σ.e i) ok fun q=>K q σ
 | .typeAssert x _ t ok=>Ei C t (val σ.e x) ok fun q=>K q σ
 | .extract x i=>D9 (val σ.e x) i fun q=>K q σ
 | .call c=>Sx C c σ K KP
 | .panic x=>match val σ.e x with
   | .iface t v=>KP (.iface t v) σ
   | _=>False
 | _=>False

/-! #### .. are the model's -/
/-- 'next' is met behind the operation, 'Q' at a panic. -/
structure Meets (C:Ctx) (V:View) (σ:St) (a:Act) (o:Oper) (K KP:PVal→St→Prop) (next:Act→World→Prop) (Q:Exit→Act→World→Prop):Prop where
 next:∀ V' σ' p v,Went C V σ V' σ'→Rep V' p v→K p σ'→next (a.put o.dst v) V'.w
 pan:∀ V' σ' p v,Went C V σ V' σ'→Rep V' p v→KP p σ'→Q (.panic [{ v,recovered:=false }]) a V'.w

variable {C:Ctx} {n:Nat} {V:View} {σ:St} {a:Act} {o:Oper} {K KP:PVal→St→Prop} {next:Act→World→Prop} {Q:Exit→Act→World→Prop}

theorem Co {u:Value} {w':World} (h:(execOp a.eval o).run C.P V.w=.ok (.value u) w') (hn:next (a.put o.dst u) w'):o.wp C.P a V.w next Q:=by
 unfold Oper.wp;rw [h];exact hn
theorem wp_skip' {w':World} (h:(execOp a.eval o).run C.P V.w=.ok .skip w') (hn:next (a.put o.dst undef) w'):o.wp C.P a V.w next Q:=by
 unfold Oper.wp;rw [h];exact hn

theorem N4 {P:Program} {g:FuncId} (h:okF P g=true) (args:Array Value) (w:World):(callFunc g args).run P w=.ok (.enter g args) w:=by
 unfold okF at h
 split at h
 ·rename_i fn hf
  simp only [Bool.and_eq_true,Bool.not_eq_true'] at h
  obtain ⟨h1,h2⟩:=h
  have h2':fn.name≠ "runtime.NumGoroutine":=fun e=>by rw [e] at h2;simp at h2
  have h3:fn.body≠none:=fun e=>by rw [e] at h1;cases h1
  unfold callFunc
  simp [hf,h2',h3]
 ·cases h

theorem Im {ps qs:List PVal} {us vs:Array Value} (h:Ca V ps us) (k:Ca V qs vs):Ca V (ps ++ qs) (us ++ vs):=by
 refine ⟨by simp [h.1,k.1],fun j p hp=>?_⟩
 rw [Array.getD_eq_getD_getElem?]
 by_cases hj:j < ps.length
 ·rw [List.getElem?_append_left hj] at hp
  rw [Array.getElem?_append_left (by rw [h.1];exact hj),← Array.getD_eq_getD_getElem?]
  exact h.2 j p hp
 ·rw [List.getElem?_append_right (by omega)] at hp
  rw [Array.getElem?_append_right (by rw [h.1];omega),← Array.getD_eq_getD_getElem?,h.1]
  exact k.2 _ p hp

theorem Ut (hR:Rel C n V σ a) (x:Option Operand):(∀ p,x.map (val σ.e)=some p→∃ v,x.map a.eval=some v∧Rep V p v)∧(x.map (val σ.e)=none→x.map a.eval=none):=by
 cases x with
 | none=>exact ⟨fun p h=>(by cases h),fun _=>rfl⟩
 | some x=>exact ⟨fun p h=>(by cases h;exact ⟨_,rfl,Bp hR x⟩),fun h=>(by cases h)⟩

theorem Ls (hR:Rel C n V σ a) (h:wOp C o.op σ K KP) (hm:Meets C V σ a o K KP next Q):o.wp C.P a V.w next Q:=by
 have hW:=Went.refl (C:=C) (V:=V) (σ:=σ) hR.mem
 -- a value in the world that stands
 have quiet:∀ {s:Sem Value} {K':PVal→Prop},(∀ q,K' q→K q σ)→execOp a.eval o=(do pure (.value (← s)))→(∃ u q,s.run C.P V.w=.ok u V.w∧Rep V q u∧K' q)→o.wp C.P a V.w next Q:=fun {s K'} hK he ⟨u,q,hr,hq,hk⟩ =>
  Co (by rw [he,Sem.run_bind,hr];rfl) (hm.next V σ q u hW hq (hK q hk))
 -- a value in a new world
 have loud:∀ {s:Sem Value},execOp a.eval o=(do pure (.value (← s)))→(∃ V' σ' q u,s.run C.P V.w=.ok u V'.w∧Went C V σ V' σ'∧Rep V' q u∧K q σ')→o.wp C.P a V.w next Q:=fun {s} he ⟨V',σ',q,u,hr,hw,hq,hk⟩ =>
  Co (by rw [he,Sem.run_bind,hr];rfl) (hm.next V' σ' q u hw hq hk)
 unfold wOp at h
 split at h
 ·rename_i x hop
  exact Co (by unfold execOp;rw [hop];rfl) (hm.next V σ _ _ hW (Bp hR x) h)
 ·rename_i x hop
  exact Co (by unfold execOp;rw [hop];rfl) (hm.next V σ _ _ hW (Bp hR x) h)
 ·rename_i c x y hop
  split at h
  ·rename_i t hc
   have hcr:=Bp hR c
   rw [hc] at hcr
   generalize hce:a.eval c=cv at hcr
   cases hcr
   cases t
   ·exact Co (u:=a.eval y) (by unfold execOp;rw [hop];simp [hce,asBool]) (hm.next V σ _ _ hW (Bp hR y) (h.2 rfl))
   ·exact Co (u:=a.eval x) (by unfold execOp;rw [hop];simp [hce,asBool]) (hm.next V σ _ _ hW (Bp hR x) (h.1 rfl))
  ·exact h.elim
 ·rename_i e hop
  exact loud (by unfold execOp;rw [hop]) (Ud hR.mem h)
 ·rename_i e x hop
  exact loud (by unfold execOp;rw [hop]) (Qy hR.mem (Bp hR x) h)
 ·rename_i t ps hop
  exact quiet (fun _ h=>h) (by unfold execOp;rw [hop]) (T9 hR h)
 ·rename_i t m ps hop
  exact loud (by unfold execOp;rw [hop]) (Nd hR h)
 ·rename_i t x y hop
  exact loud (by unfold execOp;rw [hop]) (Od hR.mem (Bp hR x) (Bp hR y) h)
 ·rename_i t x hop
  exact quiet (fun _ h=>h) (by unfold execOp;rw [hop]) (O3 hR.mem (Bp hR x) h)
 ·rename_i t x y hop
  obtain ⟨V',σ',hr,hw,hk⟩:=Tx hR.mem (Bp hR x) (Bp hR y) h
  refine wp_skip' ?_ (hm.next V' σ' .any undef hw .any hk)
  unfold execOp
  rw [hop]
  simp only [Sem.run_bind,hr]
  rfl
 ·rename_i x hop
  obtain ⟨q,hq,hk,hv⟩:=Pt hR.mem (Bp hR x) h
  refine Co (u:=a.eval x) ?_ (hm.next V σ q _ hW hq hk)
  unfold execOp
  rw [hop]
  dsimp only
  generalize a.eval x=v at hv
  unfold ckV at hv
  split at hv
  ·rfl
  ·rfl
  ·rfl
  ·exact hv.elim
 ·rename_i op t x y ty hop
  exact quiet (fun _ h=>h) (by unfold execOp;rw [hop]) (X3 hR.mem (Bp hR x) (Bp hR y) h)
 ·rename_i op t x hop
  exact quiet (fun _ h=>h) (by unfold execOp;rw [hop]) (Aaq (Bp hR x) h C.P V.w)
 ·rename_i s d x hop
  unfold Kr at h
  have hx:=Bp hR x
  split at h
  ·rename_i k m hv
   rw [hv] at hx
   generalize hxe:a.eval x=xv at hx
   cases hx
   split at h
   ·rename_i k1 k2 hs hd
    refine Co (u:=.int k2 (k2.wrap m)) ?_ (hm.next V σ _ _ hW .int h)
    unfold execOp
    rw [hop]
    simp [hxe,convert,run_underlying (Xd hs),run_underlying (Xd hd),Conv.intToInt]
   ·exact h.elim
  ·rename_i z hv
   rw [hv] at hx
   generalize hxe:a.eval x=xv at hx
   cases hx
   obtain ⟨hs,hd,h⟩:=h
   refine Co (u:=.string ⟨⟨z⟩⟩) ?_ (hm.next V σ _ _ hW .str h)
   unfold execOp
   rw [hop]
   simp [hxe,convert,run_underlying hs,run_underlying hd]
  ·rename_i xs hv
   rw [hv] at hx
   generalize hxe:a.eval x=xv at hx
   obtain ⟨hs,hd,h⟩:=h
   obtain ⟨e,hse,he⟩:=byq_spec hs
   split at h
   ·rename_i bs hbs
    obtain ⟨ns,rfl,rfl⟩:=N5 hbs
    have hrun:(convert s d xv).run C.P V.w=.ok (.string ⟨⟨ns.map fun n=>UInt8.ofNat n.toNat⟩⟩) V.w:=by
     have hload:∀ (b off:Nat) (f:Nat→Value),(∀ n,n < ns.length→V.w.cell? ⟨b,off + n,none⟩=some (f n))→(∀ n,n < ns.length→f n=.int .u8 (ns.getD n 0)) →
       (loadCells ⟨b,off,none⟩ ns.length).run C.P V.w=.ok (ns.map (Value.int .u8)).toArray V.w:=fun b off f h1 h2=>by
      have:=run_loadCells_list (P:=C.P) (w:=V.w) ⟨b,off,none⟩ (ns.map (Value.int .u8)) (fun j v hj=>by
       simp only [List.getElem?_map,Option.map_eq_some_iff] at hj
       obtain ⟨z,hz,rfl⟩:=hj
       have hlt:=(List.getElem?_eq_some_iff.1 hz).1
       rw [Addr.add_mid,h1 j hlt,h2 j hlt]
       simp [List.getD_eq_getElem?_getD,hz])
      rw [List.length_map] at this
      exact this
     generalize hxs:ns.map (PVal.int .u8)=ps at hx
     cases hx with
     | slcEmpty =>
       rename_i a0 cap
       obtain rfl:ns=[]:=by cases ns <;> simp_all
       rw [run_convert_bytes_string V.w s d e _ _ _ hse he hd]
       cases a0 with
       | none=>rfl
       | some a0=>rfl
     | slc size f hown hb hcap hc hsz hr =>
       rename_i b off cap
       subst hxs
       rw [run_convert_bytes_string V.w s d e _ _ _ hse he hd]
       rcases Nat.eq_zero_or_pos ns.length with h0 | h0
       ·obtain rfl:ns=[]:=List.length_eq_zero_iff.1 h0
        rfl
       have hs1:size=1:=by
        have:=hsz 0 (.int .u8 ns[0]) (by simp)
        exact this.symm
       subst hs1
       simp only [List.length_map,Nat.mul_one] at hc ⊢
       rw [run_bytesToString V.w ⟨b,off,none⟩ ns.length cap ns (hload b off f (fun n hn=>(hc n hn).1) fun n hn=>by
        have:=hr n (.int .u8 ns[n]) 0 (.int .u8 ns[n]) (by simp [hn]) rfl
        rw [Nat.mul_one,Nat.add_zero] at this
        generalize hfn:f n=y at this
        cases this
        simp [List.getD_eq_getElem?_getD,hn])]
       rw [Tm]
       rfl
    refine Co (u:=.string ⟨⟨ns.map fun n=>UInt8.ofNat n.toNat⟩⟩) ?_ (hm.next V σ _ _ hW .str h)
    unfold execOp
    rw [hop]
    simp only [hxe,Sem.run_bind,hrun]
    rfl
   ·exact h.elim
  ·exact h.elim
 ·rename_i t x hop
  exact quiet (fun _ h=>h) (by unfold execOp;rw [hop]) (Oe (Bp hR x) h)
 ·rename_i f first caps hop
  refine Co (u:=.func f (first.map a.eval) (caps.map a.eval)) ?_ (hm.next V σ _ _ hW (.fn (Jk hR first).1 (Jk hR caps).1 (Jk hR first).2 (Jk hR caps).2) h)
  unfold execOp
  rw [hop]
  rfl
 ·rename_i t x lo hi mx hop
  obtain ⟨rfl,h⟩:=h
  exact quiet (fun _ h=>h) (by unfold execOp;rw [hop];rfl) (Tz hR.mem (Bp hR x) (Ut hR lo).1 (Ut hR lo).2 (Ut hR hi).1 (Ut hR hi).2 h)
 ·rename_i s x f hop
  exact quiet (fun _ h=>h) (by unfold execOp;rw [hop]) (Oh hR.mem (Bp hR x) h)
 ·rename_i t x f hop
  exact quiet (fun _ h=>h) (by unfold execOp;rw [hop]) (T6 (Bp hR x) h)
 ·rename_i t x i hop
  exact quiet (fun _ h=>h) (by unfold execOp;rw [hop]) (Og hR.mem (Bp hR x) (Bp hR i) h)
 ·rename_i t x i hop
  exact quiet (fun _ h=>h) (by unfold execOp;rw [hop]) (T5 (Bp hR x) (Bp hR i) h)
 ·rename_i t x i ok hop
  exact quiet (fun _ h=>h) (by unfold execOp;rw [hop]) (Sc (Bp hR x) (Bp hR i) h)
 ·rename_i x xt t ok hop
  exact quiet (fun _ h=>h) (by unfold execOp;rw [hop]) (Se (Bp hR x) h)
 ·rename_i x i hop
  exact quiet (fun _ h=>h) (by unfold execOp;rw [hop]) (Qv (Bp hR x) h C.P V.w)
 ·rename_i c hop
  unfold Sx at h
  split at h
  ·rename_i b hc
   have hres:∀ r,(builtin b c.argTypes o.type (c.args.map fun | .const _=>true | _=>false) (c.args.map a.eval)).run C.P V.w=r→(execOp a.eval o).run C.P V.w=r:=fun r hr=>by
    unfold execOp
    rw [hop]
    simp only [resolve,hc,Sem.run_bind,Sem.run_pure,Result.andThen_ok]
    exact hr
   have hargs:=Jk hR c.args
   unfold Cp at h
   split at h
   ·split at h
    ·rename_i p t hp ht
     obtain ⟨hd,h⟩:=h
     have ht':c.argTypes=#[t]:=Array.toList_inj.1 (by simpa using ht)
     obtain ⟨v,hv,hvr⟩:∃ v,c.args.map a.eval=#[v]∧Rep V p v:=by
      rw [hp] at hargs
      obtain ⟨h1,h2⟩:=hargs
      have e0:=h2 0 p rfl
      generalize c.args.map a.eval=z at *
      obtain ⟨z⟩:=z
      match z,h1 with
      | [q],_=>exact ⟨q,rfl,by simpa [Array.getD] using e0⟩
     obtain ⟨u,q,hr,hq,hk⟩:=Xy hvr (fun r off m e hdd=>by
      subst e
      dsimp only at hd
      split at hd
      ·rename_i hB;exact Lc hR.mem hB (by simp) hdd
      ·exact hd) h o.type
     refine Co (hres _ ?_) (hm.next V σ q u hW hq hk)
     unfold builtin
     rw [ht',hv]
     simp only [Sem.run_bind,hr]
     rfl
    ·exact h.elim
   ·split at h
    ·rename_i k x k' y hp
     obtain ⟨u,v,hv⟩:∃ u v,c.args.map a.eval=#[.int k x,.int k' y]∧u=v:=by
      rw [hp] at hargs
      obtain ⟨h1,h2⟩:=hargs
      have e0:=h2 0 _ rfl
      have e1:=h2 1 _ rfl
      refine ⟨(),(),?_,rfl⟩
      generalize c.args.map a.eval=z at *
      obtain ⟨z⟩:=z
      match z,h1 with
      | [p,q],_ =>
        simp [Array.getD] at e0 e1
        cases e0;cases e1;rfl
     refine Co (u:=.int k (mn x y)) (hres _ ?_) (hm.next V σ _ _ hW .int h)
     unfold builtin
     rw [hv.1]
     simp [Builtin.min_,Builtin.min2,mn]
    ·exact h.elim
   ·split at h
    ·rename_i k x k' y hp
     obtain ⟨u,v,hv⟩:∃ u v,c.args.map a.eval=#[.int k x,.int k' y]∧u=v:=by
      rw [hp] at hargs
      obtain ⟨h1,h2⟩:=hargs
      have e0:=h2 0 _ rfl
      have e1:=h2 1 _ rfl
      refine ⟨(),(),?_,rfl⟩
      generalize c.args.map a.eval=z at *
      obtain ⟨z⟩:=z
      match z,h1 with
      | [p,q],_ =>
        simp [Array.getD] at e0 e1
        cases e0;cases e1;rfl
     refine Co (u:=.int k (mx x y)) (hres _ ?_) (hm.next V σ _ _ hW .int h)
     unfold builtin
     rw [hv.1]
     simp [Builtin.max_,Builtin.max2,mx]
    ·exact h.elim
   ·split at h
    ·rename_i t p hp
     obtain ⟨v,hv,hvr⟩:∃ v,c.args.map a.eval=#[.iface t v]∧Rep V p v:=by
      rw [hp] at hargs
      obtain ⟨h1,h2⟩:=hargs
      have e0:=h2 0 _ rfl
      generalize c.args.map a.eval=z at *
      obtain ⟨z⟩:=z
      match z,h1 with
      | [q],_ =>
        simp [Array.getD] at e0
        cases e0 with
        | iface h=>exact ⟨_,rfl,h⟩
     have:(execOp a.eval o).run C.P V.w=.halt (.panic (.iface t v)) V.w:=hres _ (by
      unfold builtin
      rw [hv]
      simp [Instr.panic])
     unfold Oper.wp
     rw [this]
     exact hm.pan V σ _ _ hW (.iface hvr) h
    ·exact h.elim
   ·split at h
    ·rename_i p q t tx hp ht
     have ht':c.argTypes=#[t,tx]:=Array.toList_inj.1 (by simpa using ht)
     obtain ⟨v,x,hv,hvr,hxr⟩:∃ v x,c.args.map a.eval=#[v,x]∧Rep V p v∧Rep V q x:=by
      rw [hp] at hargs
      obtain ⟨h1,h2⟩:=hargs
      have e0:=h2 0 p rfl
      have e1:=h2 1 q rfl
      generalize c.args.map a.eval=z at *
      obtain ⟨z⟩:=z
      match z,h1 with
      | [y,y'],_=>exact ⟨y,y',rfl,by simpa [Array.getD] using e0,by simpa [Array.getD] using e1⟩
     obtain ⟨V',σ',r,u,hr,hw,hru,hk⟩:=Sf hR.mem hvr hxr h o.type
     refine Co (hres _ ?_) (hm.next V' σ' r u hw hru hk)
     unfold builtin
     rw [ht',hv]
     simp only [Sem.run_bind,hr]
     rfl
    ·exact h.elim
   ·exact h.elim
  ·rename_i f hc
   split at h
   ·rename_i g first caps hf
    have hfr:=Bp hR f
    rw [hf] at hfr
    generalize hfe:a.eval f=fv at hfr
    cases hfr with
    | fn hl hl' hh hh' =>
      rename_i fs cs
      obtain ⟨hok,hcall⟩:=h
      have hargs:Ca V (first ++ (c.args.toList.map (val σ.e) ++ caps)) (fs ++ (c.args.map a.eval) ++ cs):=by
       rw [Array.append_assoc]
       exact Im ⟨hl,hh⟩ (Im (Jk hR c.args) ⟨hl',hh'⟩)
      have hex:(execOp a.eval o).run C.P V.w=.ok (.enter g (fs ++ (c.args.map a.eval) ++ cs)) V.w:=by
       unfold execOp
       rw [hop]
       simp only [resolve,hc,hfe,Deferred.ofValue,Sem.run_bind,Sem.run_pure,Result.andThen_ok,invoke]
       exact N4 hok _ _
      unfold Oper.wp
      rw [hex,Oper.upon_enter]
      refine (hcall V _ hR.mem hargs).mono fun e w' ⟨V',σ',r,hw,hwent,her,hk⟩=>?_
      subst hw
      cases r with
      | ret p =>
        cases e with
        | returned v=>exact hm.next V' σ' p v hwent her hk
        | panicked=>exact her.elim
        | outgrown=>exact her.elim
      | pan p =>
        cases e with
        | returned v=>exact her.elim
        | panicked chain =>
          obtain ⟨v,rfl,hv⟩:=her
          exact hm.pan V' σ' p v hwent hv hk
        | outgrown=>exact her.elim
   ·exact h.elim
  ·exact h.elim
 ·rename_i x hop
  split at h
  ·rename_i t p hp
   have hx:=Bp hR x
   rw [hp] at hx
   generalize hxe:a.eval x=xv at hx
   cases hx with
   | iface hv =>
     rename_i v
     have:(execOp a.eval o).run C.P V.w=.halt (.panic (.iface t v)) V.w:=by
      unfold execOp
      rw [hop]
      simp [hxe,Instr.panic]
     unfold Oper.wp
     rw [this]
     exact hm.pan V σ _ _ hW (.iface hv) h
  ·exact h.elim
 ·exact h.elim
end Go.V
namespace Go.V
open Go

variable {C:Ctx} {n:Nat}

/-! ### a row of operations -/
def put (n:Nat) (d:Option Nat) (p:PVal) (e:Env):Env :=
 match d with
 | some d=>bif Nat.blt d n then (d,p)::e else e
 | none=>e
def St.put (σ:St) (n:Nat) (d:Option Nat) (p:PVal):St:={ σ with e:=V.put n d p σ.e }
def St.env (σ:St) (e:Env):St:={ σ with e:=e }

def yld (ops:List Oper) (e:Env) (j:Nat):PVal :=
 match ops[j]? with
 | some o=>match o.dst with
   | some d=>gt e d
   | none=>.any
 | none=>.any

/-- One operation, with its guard. -/
def Ft (C:Ctx) (all:List Oper) (o:Oper) (σ:St) (K KP:PVal→St→Prop):Prop :=
 match o.guard with
 | none=>wOp C o.op σ K KP
 | some (j,want)=>match yld all σ.e j with
   | .bool b=>(b=want→wOp C o.op σ K KP)∧(b=(!want)→K (.tuple []) σ)
   | .tuple []=>K (.tuple []) σ
   | _=>False

def Ja (C:Ctx) (n:Nat) (all:List Oper):List Oper→St→(St→Prop)→(PVal→St→Prop)→Prop
 | [],σ,K,_=>K σ
 | o::os,σ,K,KP=>Ft C all o σ (fun p σ'=>Ja C n all os (σ'.put n o.dst p) K KP) KP

theorem Fk {V:View} {σ:St} {a:Act} (hR:Rel C n V σ a) {p:PVal} {v:Value} (hp:Rep V p v) (d:Option Nat):Rel C n V (σ.put n d p) (a.put d v):=by
 cases d with
 | none=>exact hR
 | some d =>
   refine ⟨hR.mem,fun t=>?_,?_,hR.defers⟩
   ·simp only [St.put,put,Act.put]
    cases h:Nat.blt d n with
    | false =>
      have hd:¬ d < a.tmps.size:=by rw [hR.tmps];intro h';rw [show Nat.blt d n=true from by rw [Nat.blt_eq];exact h'] at h;cases h
      simp only [cond_false]
      rw [Array.setIfInBounds_eq_of_size_le (by omega)]
      exact hR.env t
    | true =>
      have hd:d < a.tmps.size:=by rw [hR.tmps];rwa [Nat.blt_eq] at h
      simp only [cond_true,gt]
      rw [Lj _ _ _ _ _ hd]
      by_cases e:d=t
      ·subst e;simp [hp]
      ·rw [if_neg (Ne.symm e)]
       have:Nat.beq d t=false:=by
        cases hb:Nat.beq d t with
        | false=>rfl
        | true=>exact absurd (Nat.eq_of_beq_eq_true hb) e
       rw [this];exact hR.env t
   ·simp [Act.put,hR.tmps]

theorem Went.rel {V V':View} {σ σ':St} {a:Act} (h:Went C V σ V' σ') (hR:Rel C n V σ a):Rel C n V' σ' a where
 mem:=h.mem
 env t:=by rw [h.e];exact (hR.env t).mono h.to
 tmps:=hR.tmps
 defers:=by
  rw [h.d]
  have:∀ (ps:List PDef) (ds:List Deferred),O1 V ps ds→O1 V' ps ds:=by
   intro ps
   induction ps with
   | nil=>intro ds h;cases ds <;> exact h
   | cons p ps ih =>
     intro ds hd
     cases ds with
     | nil=>exact hd
     | cons d ds =>
       obtain ⟨⟨caps,args,h1,h2,h3⟩,h4⟩:=hd
       exact ⟨⟨caps,args,h1,⟨h2.1,fun j p hp=>(h2.2 j p hp).mono h.to⟩,⟨h3.1,fun j p hp=>(h3.2 j p hp).mono h.to⟩⟩,ih ds h4⟩
  exact this _ _ hR.defers

theorem Went.trans {V V' V'':View} {σ σ' σ'':St} (h:Went C V σ V' σ') (k:Went C V' σ' V'' σ''):Went C V σ V'' σ'' :=
 ⟨h.to.trans k.to,h.later.trans k.later,k.mem,k.e.trans h.e,k.d.trans h.d⟩

inductive AEx where
 | normal
 | exit (id:Nat)
 | ret
 | pan (p:PVal)

def ExRel (V:View):AEx→Exit→Prop
 | .normal,.normal=>True
 | .exit i,.exit j=>i=j
 | .ret,.ret=>True
 | .pan p,.panic chain=>∃ v,chain=[{ v,recovered:=false }]∧Rep V p v
 | _,_=>False

/-- What is met at the end of a piece of code. -/
def Kn (C:Ctx) (n:Nat) (V:View) (Q:AEx→St→Prop) (e:Exit) (a':Act) (w':World):Prop :=
 ∃ V' σ' x,V'.w=w'∧Later V V'∧Rel C n V' σ' a'∧ExRel V' x e∧Q x σ'

theorem Ob (o:Oper) (ops:Array Oper) (tmps:Array Value) (j:Nat) (want:Bool) (hg:o.guard=some (j,want)) (d:Nat) (b:Bool)
  (hd:(ops[j]?).bind (·.dst)=some d) (hb:tmps.getD d undef=.bool b):Region.wanted o (yielded ops tmps)=(b == want):=by
 have h:tmps[d]? = some (.bool b):=by
  rw [Array.getD_eq_getD_getElem?] at hb
  cases h:tmps[d]? with
  | none=>rw [h] at hb;cases hb
  | some v=>rw [h] at hb;simpa using hb
 unfold Region.wanted yielded
 simp [hg,hd,h]

theorem Qb (V:View):Rep V (.tuple []) undef:=.tuple rfl (fun j c hc=>by simp at hc)
theorem Mk (o:Oper) (ops:Array Oper) (tmps:Array Value) (j:Nat) (want:Bool) (hg:o.guard=some (j,want)) (d:Nat)
  (hd:(ops[j]?).bind (·.dst)=some d) (hb:tmps.getD d undef=.tuple #[]):Region.wanted o (yielded ops tmps)=false:=by
 unfold Region.wanted yielded
 simp only [hg,hd]
 rw [Array.getD_eq_getD_getElem?] at hb
 cases h:tmps[d]? with
 | none=>simp [h]
 | some v =>
   rw [h] at hb
   simp at hb
   subst hb
   simp [h]

theorem Jt {ops:Array Oper} {Q:AEx→St→Prop} {V0:View}:∀ (os:List Oper) (k:Nat) (V:View) (σ:St) (a:Act),(∀ j,os[j]? = ops[k + j]?)→Later V0 V→Rel C n V σ a →
  Ja C n ops.toList os σ (Q .normal) (fun p σ'=>Q (.pan p) σ')→wpOps C.P ops (Kn C n V0 Q) (List.range' k os.length) a V.w
 | [],k,V,σ,a,_,hl,hR,h=>⟨V,σ,.normal,rfl,hl,hR,trivial,h⟩
 | o::os,k,V,σ,a,hk,hl,hR,h=>by
   have hko:ops[k]? = some o:=by simpa using (hk 0).symm
   have hos:∀ j,os[j]? = ops[k + 1 + j]? := fun j=>by
    have:=hk (j + 1)
    rw [show k + (j + 1)=k + 1 + j by omega] at this
    simpa using this
   simp only [List.length_cons,List.range'_succ,wpOps,hko]
   have go:wOp C o.op σ (fun p σ'=>Ja C n ops.toList os (σ'.put n o.dst p) (Q .normal) (fun p σ'=>Q (.pan p) σ')) (fun p σ'=>Q (.pan p) σ') →
     o.wp C.P a V.w (wpOps C.P ops (Kn C n V0 Q) (List.range' (k + 1) os.length)) (Kn C n V0 Q):=fun h=>by
    refine Ls hR h ⟨fun V' σ' p v hw hp hK=>?_,fun V' σ' p v hw hp hK=>?_⟩
    ·exact Jt os (k + 1) V' _ _ hos (hl.trans hw.later) (Fk (hw.rel hR) hp o.dst) hK
    ·exact ⟨V',σ',.pan p,rfl,hl.trans hw.later,hw.rel hR,⟨v,rfl,hp⟩,hK⟩
   have skip:Ja C n ops.toList os (σ.put n o.dst (.tuple [])) (Q .normal) (fun p σ'=>Q (.pan p) σ') →
     wpOps C.P ops (Kn C n V0 Q) (List.range' (k + 1) os.length) (a.put o.dst undef) V.w:=fun h =>
    Jt os (k + 1) V _ _ hos hl (Fk hR (Qb V) o.dst) h
   simp only [Ja,Ft] at h
   have dst:∀ j q,yld ops.toList σ.e j=q→(∃ d,(ops[j]?).bind (·.dst)=some d∧gt σ.e d=q)∨q=.any:=fun j q hy=>by
    unfold yld at hy
    split at hy
    ·rename_i o' ho'
     have:ops[j]? = some o':=by simpa using ho'
     split at hy
     ·rename_i d hd
      exact .inl ⟨d,by simp [this,hd],hy⟩
     ·exact .inr hy.symm
    ·exact .inr hy.symm
   split at h
   ·rename_i hg
    have hw:Region.wanted o (yielded ops a.tmps)=true:=by unfold Region.wanted;simp [hg]
    rw [if_pos hw]
    exact .inl (go h)
   ·rename_i j want hg
    split at h
    ·rename_i b hy
     rcases dst j _ hy with ⟨d,hdd,hd⟩ | hn
     ·have hr:=hR.env d
      rw [hd] at hr
      generalize hv:a.tmps.getD d undef=v at hr
      cases hr
      have hwant:=Ob o ops a.tmps j want hg d b hdd hv
      rw [hwant]
      by_cases e:b=want
      ·subst e
       simp only [beq_self_eq_true,if_true]
       exact .inl (go (h.1 rfl))
      ·have:(b == want)=false:=by simpa using e
       simp only [this,Bool.false_eq_true,if_false]
       exact skip (h.2 (by cases b <;> cases want <;> simp_all))
     ·cases hn
    ·rename_i hy
     rcases dst j _ hy with ⟨d,hdd,hd⟩ | hn
     ·have hr:=hR.env d
      rw [hd] at hr
      generalize hv:a.tmps.getD d undef=v at hr
      cases hr with
      | @tuple ps vs hl _ =>
        obtain rfl:vs=#[]:=Array.eq_empty_of_size_eq_zero hl
        rw [Mk o ops a.tmps j want hg d hdd hv]
        simp only [Bool.false_eq_true,if_false]
        exact skip h
     ·cases hn
    ·exact h.elim

/-! ### code -/
def WC (C:Ctx) (n:Nat) (c:Code) (σ:St) (Q:AEx→St→Prop):Prop :=
 ∀ V a,Rel C n V σ a→c.wp C.P (Kn C n V Q) a V.w

theorem WC.mono {c:Code} {σ:St} {Q Q':AEx→St→Prop} (h:WC C n c σ Q) (hq:∀ x σ,Q x σ→Q' x σ):WC C n c σ Q':=fun V a hR =>
 wp_mono (h V a hR) fun _ _ _ ⟨V',σ',x,h1,h2,h3,h4,h5⟩=>⟨V',σ',x,h1,h2,h3,h4,hq _ _ h5⟩

theorem WC.region {id:Nat} {ops:Array Oper} {σ:St} {Q:AEx→St→Prop} (h:Ja C n ops.toList ops.toList σ (Q .normal) (fun p σ'=>Q (.pan p) σ')):WC C n (.region id ops false) σ Q:=fun V a hR=>by
 refine wp_region ?_
 rw [List.range_eq_range']
 have:=Jt (V0:=V) ops.toList 0 V σ a (by simp) (Later.refl V) hR h
 simpa using this

theorem WC.skip {σ:St} {Q:AEx→St→Prop} (h:Q .normal σ):WC C n .skip σ Q:=fun V _ hR=>wp_skip ⟨V,σ,.normal,rfl,Later.refl V,hR,trivial,h⟩
theorem WC.ret {σ:St} {Q:AEx→St→Prop} (h:Q .ret σ):WC C n .ret σ Q:=fun V _ hR=>wp_ret ⟨V,σ,.ret,rfl,Later.refl V,hR,trivial,h⟩
theorem WC.exit {id:Nat} {σ:St} {Q:AEx→St→Prop} (h:Q (.exit id) σ):WC C n (.exit id) σ Q:=fun V _ hR=>wp_exit ⟨V,σ,.exit id,rfl,Later.refl V,hR,rfl,h⟩

/-- Behind a piece of code: where it goes on, 'next'. -/
def Hd (next:St→Prop) (Q:AEx→St→Prop):AEx→St→Prop
 | .normal,σ=>next σ
 | x,σ=>Q x σ
theorem WC.seq {x y:Code} {σ:St} {Q:AEx→St→Prop} (h:WC C n x σ (Hd (fun σ'=>WC C n y σ' Q) Q)):WC C n (.seq x y) σ Q:=fun V a hR=>by
 refine wp_seq (wp_mono (h V a hR) fun e a' w' ⟨V',σ',ax,h1,h2,h3,h4,h5⟩=>?_)
 subst h1
 cases ax with
 | normal =>
   cases e <;> first | exact h4.elim | skip
   refine wp_mono (h5 V' a' h3) fun e2 a2 w2 ⟨V2,σ2,x2,k1,k2,k3,k4,k5⟩=>⟨V2,σ2,x2,k1,h2.trans k2,k3,k4,k5⟩
 | exit id=>cases e <;> first | exact h4.elim | exact ⟨V',σ',_,rfl,h2,h3,h4,h5⟩
 | ret=>cases e <;> first | exact h4.elim | exact ⟨V',σ',_,rfl,h2,h3,h4,h5⟩
 | pan p=>cases e <;> first | exact h4.elim | exact ⟨V',σ',_,rfl,h2,h3,h4,h5⟩

theorem WC.cond {c:Operand} {x y:Code} {σ:St} {Q:AEx→St→Prop} {b:Bool} (hc:val σ.e c=.bool b) (ht:b=true→WC C n x σ Q) (hf:b=false→WC C n y σ Q):WC C n (.cond c x y) σ Q:=fun V a hR=>by
 have hr:=Bp hR c
 rw [hc] at hr
 generalize hv:a.eval c=v at hr
 cases hr
 exact wp_cond_split hv (fun h=>ht h V a hR) (fun h=>hf h V a hR)

def inBlockQ (id:Nat) (Q:AEx→St→Prop):AEx→St→Prop
 | .exit i,σ=>(i=id→Q .normal σ)∧(i≠id→Q (.exit i) σ)
 | x,σ=>Q x σ
theorem WC.block {id:Nat} {c:Code} {σ:St} {Q:AEx→St→Prop} (h:WC C n c σ (inBlockQ id Q)):WC C n (.block id c) σ Q:=fun V a hR=>by
 refine wp_block (wp_mono (h V a hR) fun e a' w' ⟨V',σ',ax,h1,h2,h3,h4,h5⟩=>?_)
 cases ax with
 | normal=>cases e <;> first | exact h4.elim | exact ⟨V',σ',_,h1,h2,h3,h4,h5⟩
 | exit i =>
   cases e <;> first | exact h4.elim | skip
   obtain rfl:i=_:=h4
   unfold Exit.inBlock
   by_cases hi:i=id
   ·simp only [hi,if_true]
    exact ⟨V',σ',.normal,h1,h2,h3,trivial,h5.1 hi⟩
   ·simp only [hi,if_false]
    exact ⟨V',σ',.exit i,h1,h2,h3,rfl,h5.2 hi⟩
 | ret=>cases e <;> first | exact h4.elim | exact ⟨V',σ',_,h1,h2,h3,h4,h5⟩
 | pan p=>cases e <;> first | exact h4.elim | exact ⟨V',σ',_,h1,h2,h3,h4,h5⟩
end Go.V
namespace Go.V
open Go

variable {C:Ctx} {n:Nat}

/-! ### other names -/
mutual
def ren (f:Ref→Ref):PVal→PVal
 | .ptr r i o=>.ptr (f r) i o
 | .ref r o l=>.ref (f r) o l
 | .mref r=>.mref (f r)
 | .eptr x o=>.eptr (ren f x) o
 | .slc xs=>.slc (Ba f xs)
 | .agg cs=>.agg (Ba f cs)
 | .tuple cs=>.tuple (Ba f cs)
 | .iface t v=>.iface t (ren f v)
 | .fn g a b=>.fn g (Ba f a) (Ba f b)
 | .fmap ks vs=>.fmap (Ba f ks) (Ba f vs)
 | .any=>.any
 | .bool b=>.bool b
 | .int k n=>.int k n
 | .str s=>.str s
 | .nilp=>.nilp
 | .gptr g o=>.gptr g o
 | .nils=>.nils
 | .niliface=>.niliface
 | .nilfn=>.nilfn
 | .nilmap=>.nilmap
def Ba (f:Ref→Ref):List PVal→List PVal
 | []=>[]
 | x::xs=>ren f x::Ba f xs
end
theorem Bw (f:Ref→Ref) (xs:List PVal):Ba f xs=xs.map (ren f):=by
 induction xs with
 | nil=>simp [Ba]
 | cons x xs ih=>simp [Ba,ih]
theorem Ds (f:Ref→Ref) (p:PVal):(ren f p).cells=p.cells.map (ren f):=by
 cases p <;> simp [ren,PVal.cells,Bw]

def View.via (V:View) (f:Ref→Ref):View:={ V with loc:=fun r=>V.loc (f r) }

theorem Rep.via {V:View} {f:Ref→Ref} {q:PVal} {v:Value} (h:Rep V q v):∀ p,q=ren f p→Rep (V.via f) p v:=by
 induction h with
 | any=>intro p hp;cases p <;> simp [ren] at hp;exact .any
 | bool=>intro p hp;cases p <;> simp [ren] at hp;subst hp;exact .bool
 | int=>intro p hp;cases p <;> simp [ren] at hp;obtain ⟨rfl,rfl⟩:=hp;exact .int
 | str=>intro p hp;cases p <;> simp [ren] at hp;subst hp;exact .str
 | nilp=>intro p hp;cases p <;> simp [ren] at hp;exact .nilp
 | ptr h=>intro p hp;cases p <;> simp [ren] at hp;obtain ⟨rfl,rfl,rfl⟩:=hp;exact .ptr h
 | ptrDead h h1=>intro p hp;cases p <;> simp [ren] at hp;obtain ⟨rfl,rfl,rfl⟩:=hp;exact .ptrDead h h1
 | gptr=>intro p hp;cases p <;> simp [ren] at hp;obtain ⟨rfl,rfl⟩:=hp;exact .gptr
 | eptr g a b c d ih =>
   intro p hp;cases p <;> simp [ren] at hp;obtain ⟨rfl,rfl⟩:=hp
   refine .eptr g a b (fun m hm=>c m (by rw [Ds];simpa using hm)) fun j x hx=>ih j (ren f x) (by rw [Ds];simp [hx]) x rfl
 | nils=>intro p hp;cases p <;> simp [ren] at hp;exact .nils
 | slcEmpty =>
   intro p hp;cases p <;> simp [ren,Bw] at hp
   subst hp;exact .slcEmpty
 | slc size g a b c d e f' ih =>
   intro p hp;cases p <;> simp [ren,Bw] at hp
   subst hp
   simp only [List.length_map] at *
   refine .slc size g a b c d (fun i x hx=>?_) fun i x j y hx hy=>ih i (ren f x) j (ren f y) (by simp [hx]) (by rw [Ds];simp [hy]) y rfl
   have:=e i (ren f x) (by simp [hx])
   rwa [Ds,List.length_map] at this
 | ref h a b=>intro p hp;cases p <;> simp [ren] at hp;obtain ⟨rfl,rfl,rfl⟩:=hp;exact .ref h a b
 | refEmpty h=>intro p hp;cases p <;> simp [ren] at hp;obtain ⟨rfl,rfl,rfl⟩:=hp;exact .refEmpty h
 | refDead h a=>intro p hp;cases p <;> simp [ren] at hp;obtain ⟨rfl,rfl,rfl⟩:=hp;exact .refDead h a
 | agg a b c ih =>
   intro p hp;cases p <;> simp [ren,Bw] at hp
   subst hp
   simp only [List.length_map] at *
   exact .agg a b fun j x hx=>ih j (ren f x) (by simp [hx]) x rfl
 | tuple a c ih =>
   intro p hp;cases p <;> simp [ren,Bw] at hp
   subst hp
   simp only [List.length_map] at *
   exact .tuple a fun j x hx=>ih j (ren f x) (by simp [hx]) x rfl
 | iface h ih=>intro p hp;cases p <;> simp [ren] at hp;obtain ⟨rfl,rfl⟩:=hp;exact .iface (ih _ rfl)
 | niliface=>intro p hp;cases p <;> simp [ren] at hp;exact .niliface
 | fn a b c d ih ih' =>
   intro p hp;cases p <;> simp [ren,Bw] at hp
   obtain ⟨rfl,rfl,rfl⟩:=hp
   simp only [List.length_map] at *
   exact .fn a b (fun j x hx=>ih j (ren f x) (by simp [hx]) x rfl) fun j x hx=>ih' j (ren f x) (by simp [hx]) x rfl
 | nilfn=>intro p hp;cases p <;> simp [ren] at hp;exact .nilfn
 | nilmap=>intro p hp;cases p <;> simp [ren] at hp;exact .nilmap
 | fmap π a b c d g _ _ ih ih' =>
   intro p hp;cases p <;> simp [ren,Bw] at hp
   obtain ⟨rfl,rfl⟩:=hp
   simp only [List.length_map] at *
   exact .fmap π a b c d g (fun j x hj hx=>ih j (ren f x) hj (by simp [hx]) x rfl) fun j x hj hx=>ih' j (ren f x) hj (by simp [hx]) x rfl
 | mref h=>intro p hp;cases p <;> simp [ren] at hp;subst hp;exact .mref h
 | mrefDead h a=>intro p hp;cases p <;> simp [ren] at hp;subst hp;exact .mrefDead h a

theorem Rep.of_via {V V':View} {f:Ref→Ref} (hw:V'.w=V.w) (ho:∀ b,V.own b→V'.own b) (hl:∀ r,V'.loc r≠.out→V.loc (f r)=V'.loc r) {p:PVal} {v:Value} (h:Rep V' p v):Rep V (ren f p) v:=by
 have hne:∀ r x,V'.loc r=x→x≠.out→V.loc (f r)=x:=fun r x hx hn=>by rw [←hx];exact hl r (by rw [hx];exact hn)
 induction h with
 | any=>simp only [ren];exact .any
 | bool=>simp only [ren];exact .bool
 | int=>simp only [ren];exact .int
 | str=>simp only [ren];exact .str
 | nilp=>simp only [ren];exact .nilp
 | ptr h=>simp only [ren];exact .ptr (hne _ _ h (by simp))
 | ptrDead h h1=>simp only [ren];exact .ptrDead (hne _ _ h (by simp)) h1
 | gptr=>simp only [ren];exact .gptr
 | eptr g a b c d ih =>
   simp only [ren]
   refine .eptr g (fun h=>a (ho _ h)) (by rw [←hw];exact b) (fun m hm=>by rw [←hw];exact c m (by rwa [Ds,List.length_map] at hm)) fun j x hx=>?_
   rw [Ds] at hx
   simp only [List.getElem?_map,Option.map_eq_some_iff] at hx
   obtain ⟨y,hy,rfl⟩:=hx
   exact ih j y hy
 | nils=>simp only [ren];exact .nils
 | slcEmpty=>simp only [ren,Ba];exact .slcEmpty
 | @slc xs b off cap size g a b' c d e f' ih =>
   simp only [ren,Bw]
   have:=Rep.slc (V:=V) (xs:=xs.map (ren f)) (cap:=cap) size g (fun h=>a (ho _ h)) (by rw [←hw];exact b') (by simpa using c) (fun m hm=>by rw [←hw];exact d m (by simpa using hm))
    (fun i x hx=>by
     simp only [List.getElem?_map,Option.map_eq_some_iff] at hx
     obtain ⟨y,hy,rfl⟩:=hx
     rw [Ds,List.length_map];exact e i y hy)
    (fun i x j z hx hz=>by
     simp only [List.getElem?_map,Option.map_eq_some_iff] at hx
     obtain ⟨y,hy,rfl⟩:=hx
     rw [Ds] at hz
     simp only [List.getElem?_map,Option.map_eq_some_iff] at hz
     obtain ⟨u,hu,rfl⟩:=hz
     exact ih i y j u hy hu)
   simpa using this
 | ref h a b=>simp only [ren];exact .ref (hne _ _ h (by simp)) a (by rw [←hw];exact b)
 | refEmpty h =>
   simp only [ren]
   rcases h with h | ⟨b,base,size,h⟩
   ·exact .refEmpty (.inl (hne _ _ h (by simp)))
   ·exact .refEmpty (.inr ⟨b,base,size,hne _ _ h (by simp)⟩)
 | refDead h a=>simp only [ren];exact .refDead (hne _ _ h (by simp)) a
 | agg a b c ih =>
   simp only [ren,Bw]
   refine .agg (by simpa using a) (by simpa using b) fun j x hx=>?_
   simp only [List.getElem?_map,Option.map_eq_some_iff] at hx
   obtain ⟨y,hy,rfl⟩:=hx
   exact ih j y hy
 | tuple a c ih =>
   simp only [ren,Bw]
   refine .tuple (by simpa using a) fun j x hx=>?_
   simp only [List.getElem?_map,Option.map_eq_some_iff] at hx
   obtain ⟨y,hy,rfl⟩:=hx
   exact ih j y hy
 | iface h ih=>simp only [ren];exact .iface ih
 | niliface=>simp only [ren];exact .niliface
 | fn a b c d ih ih' =>
   simp only [ren,Bw]
   refine .fn (by simpa using a) (by simpa using b) (fun j x hx=>?_) fun j x hx=>?_
   ·simp only [List.getElem?_map,Option.map_eq_some_iff] at hx
    obtain ⟨y,hy,rfl⟩:=hx
    exact ih j y hy
   ·simp only [List.getElem?_map,Option.map_eq_some_iff] at hx
    obtain ⟨y,hy,rfl⟩:=hx
    exact ih' j y hy
 | nilfn=>simp only [ren];exact .nilfn
 | nilmap=>simp only [ren];exact .nilmap
 | fmap π a b c d g _ _ ih ih' =>
   simp only [ren,Bw]
   refine .fmap π (fun h=>a (ho _ h)) (by rw [←hw];exact b) (by simpa using c) (by simpa using d) (by simpa using g) (fun j x hj hx=>?_) fun j x hj hx=>?_
   ·simp only [List.getElem?_map,Option.map_eq_some_iff] at hx
    obtain ⟨y,hy,rfl⟩:=hx
    exact ih j y hj hy
   ·simp only [List.getElem?_map,Option.map_eq_some_iff] at hx
    obtain ⟨y,hy,rfl⟩:=hx
    exact ih' j y hj hy
 | mref h=>simp only [ren];exact .mref (hne _ _ h (by simp))
 | mrefDead h a=>simp only [ren];exact .mrefDead (hne _ _ h (by simp)) a

/-- No name of a block occurs. -/
def Closed (p:PVal):Prop:=∀ f,ren f p=p

def Cu (f:Ref→Ref):Blk→Blk
 | .row elems size ty=>.row (Ba f elems) size ty
 | .mp ks vs=>.mp (Ba f ks) (Ba f vs)
 | .dead=>.dead
 | .iter s p=>.iter s p

/-- A block, under the names of another view of the same world. -/
theorem BlkRep.via {V:View} {f:Ref→Ref} {r:Ref} {k:Blk} (h:BlkRep V (f r) (Cu f k)):BlkRep (V.via f) r k:=by
 cases k with
 | dead=>exact h
 | row elems size ty =>
   simp only [Cu,Bw] at h
   rcases h with ⟨h1,h2⟩ | ⟨b,base,cells,fr,h1,h2,h3,h4,h5,h6,h7⟩
   ·exact .inl ⟨h1,by simpa using h2⟩
   ·refine .inr ⟨b,base,cells,fr,h1,h2,h3,by simpa using h4,h5,fun i x hx=>?_,fun i x j c hx hc=>?_⟩
    ·have:=h6 i (ren f x) (by simp [hx])
     rwa [Ds,List.length_map] at this
    ·exact (h7 i (ren f x) j (ren f c) (by simp [hx]) (by rw [Ds];simp [hc])).via c rfl
 | mp ks vs =>
   simp only [Cu,Bw] at h
   obtain ⟨b,es,clock,h1,h2,h3,h4,h5,h6⟩:=h
   exact ⟨b,es,clock,h1,h2,by simpa using h3,by simpa using h4,fun i c hc=>(h5 i (ren f c) (by simp [hc])).via c rfl,fun i c hc=>(h6 i (ren f c) (by simp [hc])).via c rfl⟩
 | iter s pos=>exact h

theorem BlkRep.of_via {V V':View} {f:Ref→Ref} (hw:V'.w=V.w) (ho:∀ b,V.own b→V'.own b) (hl:∀ r,V'.loc r≠.out→V.loc (f r)=V'.loc r) {r:Ref} {k:Blk} (h:BlkRep V' r k):BlkRep V (f r) (Cu f k):=by
 have hne:∀ r x,V'.loc r=x→x≠.out→V.loc (f r)=x:=fun r x hx hn=>by rw [←hx];exact hl r (by rw [hx];exact hn)
 cases k with
 | dead=>exact hne _ _ h (by simp)
 | row elems size ty =>
   simp only [Cu,Bw]
   rcases h with ⟨h1,h2⟩ | ⟨b,base,cells,fr,h1,h2,h3,h4,h5,h6,h7⟩
   ·exact .inl ⟨hne _ _ h1 (by simp),by simpa using h2⟩
   ·refine .inr ⟨b,base,cells,fr,hne _ _ h1 (by simp),by rw [←hw];exact h2,fun m hm=>by rw [←hw];exact h3 m hm,by simpa using h4,h5,fun i x hx=>?_,fun i x j c hx hc=>?_⟩
    ·simp only [List.getElem?_map,Option.map_eq_some_iff] at hx
     obtain ⟨y,hy,rfl⟩:=hx
     rw [Ds,List.length_map];exact h6 i y hy
    ·simp only [List.getElem?_map,Option.map_eq_some_iff] at hx
     obtain ⟨y,hy,rfl⟩:=hx
     rw [Ds] at hc
     simp only [List.getElem?_map,Option.map_eq_some_iff] at hc
     obtain ⟨u,hu,rfl⟩:=hc
     exact (h7 i y j u hy hu).of_via hw ho hl
 | mp ks vs =>
   simp only [Cu,Bw]
   obtain ⟨b,es,clock,h1,h2,h3,h4,h5,h6⟩:=h
   refine ⟨b,es,clock,hne _ _ h1 (by simp),by rw [←hw];exact h2,by simpa using h3,by simpa using h4,fun i c hc=>?_,fun i c hc=>?_⟩
   ·simp only [List.getElem?_map,Option.map_eq_some_iff] at hc
    obtain ⟨y,hy,rfl⟩:=hc
    exact (h5 i y hy).of_via hw ho hl
   ·simp only [List.getElem?_map,Option.map_eq_some_iff] at hc
    obtain ⟨y,hy,rfl⟩:=hc
    exact (h6 i y hy).of_via hw ho hl
 | iter s pos =>
   obtain ⟨b,h1,h2⟩:=h
   exact ⟨b,hne _ _ h1 (by simp),by rw [←hw];exact h2⟩

/-! ### what is forgotten, and named anew -/
def thF (θ:List Nat) (m:Nat):Ref→Ref
 | .o j=>.o j
 | .l j=>.l (θ.getD j m)

def R5 (f:Ref→Ref) (e:Env):Env→Prop
 | []=>True
 | (k,p)::r=>gt e k=ren f p∧R5 f e r
def pick (l:List Blk):List Nat→Option (List Blk)
 | []=>some []
 | j::js=>match l[j]?,pick l js with
   | some k,some ks=>some (k::ks)
   | _,_=>none
def renD (f:Ref→Ref) (d:PDef):PDef:=⟨d.f,Ba f d.args,Ba f d.caps⟩
/-- σ' says of the same memory what σ says, or less; its local block number j is σ's number θ[j]. -/
structure Conv (σ σ':St) (θ:List Nat):Prop where
 nd:θ.Nodup
 env:R5 (thF θ σ.l.length) σ.e σ'.e
 o:σ.o=σ'.o.map (Cu (thF θ σ.l.length))
 l:pick σ.l θ=some (σ'.l.map (Cu (thF θ σ.l.length)))
 d:σ.d=σ'.d.map (renD (thF θ σ.l.length))

theorem Xk {f:Ref→Ref} {e:Env}:∀ {e':Env},R5 f e e'→∀ t,gt e' t=.any∨gt e t=ren f (gt e' t)
 | [],_,_=>.inl rfl
 | (k,p)::r,h,t=>by
   simp only [gt]
   cases hb:Nat.beq k t with
   | true =>
     obtain rfl:=Nat.eq_of_beq_eq_true hb
     exact .inr h.1
   | false=>exact Xk h.2 t
theorem Ta {l:List Blk}:∀ {θ:List Nat} {ks:List Blk},pick l θ=some ks→θ.length=ks.length∧∀ (j:Nat) (k:Blk),ks[j]? = some k→∃ i,θ[j]? = some i∧l[i]? = some k
 | [],ks,h=>by cases h;exact ⟨rfl,fun j k hk=>by simp at hk⟩
 | i::θ,ks,h=>by
   unfold pick at h
   split at h
   ·rename_i k ks' hk hks
    cases h
    obtain ⟨h1,h2⟩:=Ta hks
    refine ⟨by simp [h1],fun j k' hk'=>?_⟩
    cases j with
    | zero=>simp at hk';subst hk';exact ⟨i,rfl,hk⟩
    | succ j=>simp at hk';simpa using h2 j k' hk'
   ·cases h

theorem Later.via (V:View) (f:Ref→Ref) (hf:∀ j,f (.o j)=.o j):Later V (V.via f) where
 size:=Nat.le_refl _
 heap _ _ _:=rfl
 own _ _ h:=h
 kept _ _ h _:=h
 locs r b x y _ h:=⟨f r,x,y,h⟩
 loc j _:=.inl (by simp [View.via,hf])
 shape _ _ _ _ _ _ _ _ h:=h
 os:=rfl
 tape:=rfl
 output:=rfl

theorem Rel.conv {V:View} {σ σ':St} {a:Act} (hR:Rel C n V σ a) {θ:List Nat} (h:Conv σ σ' θ):Later V (V.via (thF θ σ.l.length))∧Rel C n (V.via (thF θ σ.l.length)) σ' a:=by
 have hout:V.loc (.l σ.l.length)=.out:=hR.mem.out _ (Fe σ)
 obtain ⟨hlen,hl⟩:=Ta h.l
 rw [List.length_map] at hlen
 have hblk:∀ r k,Ao σ'.o σ'.l r=some k→Ao σ.o σ.l (thF θ σ.l.length r)=some (Cu (thF θ σ.l.length) k):=fun r k hk=>by
  cases r with
  | o j =>
    simp only [Ao,thF] at hk ⊢
    rw [h.o];simp [hk]
  | l j =>
    simp only [Ao,thF] at hk ⊢
    obtain ⟨i,hi,hli⟩:=hl j _ (show (σ'.l.map _)[j]? = some (Cu (thF θ σ.l.length) k) by simp [hk])
    rw [List.getD_eq_getElem?_getD,hi];exact hli
 have hnone:∀ r,Ao σ'.o σ'.l r=none→V.loc (thF θ σ.l.length r)=.out:=fun r hk=>by
  cases r with
  | o j =>
    refine hR.mem.out _ ?_
    simp only [Ao,thF] at hk ⊢
    rw [h.o];simpa using hk
  | l j =>
    simp only [Ao] at hk
    have:θ.length≤j:=by rw [hlen];simpa using hk
    simp only [thF,List.getD_eq_getElem?_getD,List.getElem?_eq_none this,Option.getD_none]
    exact hout
 refine ⟨Later.via V _ fun j=>rfl,?_,fun t=>?_,hR.tmps,?_⟩
 ·refine ⟨fun r k hk=>(hR.mem.blk _ _ (hblk r k hk)).via,fun r hk=>hnone r hk,fun r r' b x y x' y' h1 h2=>?_,fun r b x y h1=>hR.mem.own _ b x y h1,hR.mem.lt,fun g cs hg=>?_⟩
  ·have e:=hR.mem.inj _ _ b x y x' y' h1 h2
   cases r with
   | o j =>
     cases r' with
     | o j'=>exact e
     | l j'=>simp [thF] at e
   | l j =>
     cases r' with
     | o j'=>simp [thF] at e
     | l j' =>
       simp only [thF,Ref.l.injEq] at e
       have lt:∀ j,V.loc (.l (θ.getD j σ.l.length))≠.out→j < θ.length:=fun j hj=>by
        rcases Nat.lt_or_ge j θ.length with h' | h'
        ·exact h'
        ·rw [List.getD_eq_getElem?_getD,List.getElem?_eq_none h',Option.getD_none] at hj
         exact absurd hout hj
       have l1:=lt j (by simp only [View.via,thF] at h1;rw [h1];simp)
       have l2:=lt j' (by simp only [View.via,thF] at h2;rw [h2];simp)
       rw [List.getD_eq_getElem?_getD,List.getD_eq_getElem?_getD,List.getElem?_eq_getElem l1,List.getElem?_eq_getElem l2] at e
       simp only [Option.getD_some] at e
       have e':θ[j]? = θ[j']? := by rw [List.getElem?_eq_getElem l1,List.getElem?_eq_getElem l2];exact congrArg some e
       have e2:=(List.getElem?_inj l1 h.nd).1 e'
       subst e2;rfl
  ·exact hR.mem.glob g cs hg
 ·rcases Xk h.env t with e | e
  ·rw [e];exact .any
  ·have:=hR.env t
   rw [e] at this
   exact this.via _ rfl
 ·have:∀ (ps qs:List PDef) (ds:List Deferred),qs=ps.map (renD (thF θ σ.l.length))→O1 V qs ds→O1 (V.via (thF θ σ.l.length)) ps ds:=by
   intro ps
   induction ps with
   | nil=>intro qs ds hq hd;subst hq;cases ds <;> exact hd
   | cons p ps ih =>
     intro qs ds hq hd
     subst hq
     cases ds with
     | nil=>exact hd
     | cons d ds =>
       obtain ⟨⟨caps,args,h1,h2,h3⟩,h4⟩:=hd
       have conv:∀ (xs:List PVal) (vs:Array Value),Ca V (Ba (thF θ σ.l.length) xs) vs→Ca (V.via (thF θ σ.l.length)) xs vs:=fun xs vs hx=>by
        rw [Bw] at hx
        exact ⟨by simpa using hx.1,fun j x hj=>(hx.2 j (ren (thF θ σ.l.length) x) (by simp [hj])).via x rfl⟩
       exact ⟨⟨caps,args,h1,conv _ _ h2,conv _ _ h3⟩,ih _ ds rfl h4⟩
  exact this _ _ _ h.d hR.defers

theorem WC.conv {c:Code} {σ σ':St} {Q:AEx→St→Prop} (θ:List Nat) (hc:Conv σ σ' θ) (h:WC C n c σ' Q):WC C n c σ Q:=fun V a hR=>by
 obtain ⟨h1,h2⟩:=hR.conv hc
 have h3:=h (V.via (thF θ σ.l.length)) a h2
 exact wp_mono h3 fun _ _ _ ⟨V',σ'',x,k1,k2,k3,k4,k5⟩=>⟨V',σ'',x,k1,h1.trans k2,k3,k4,k5⟩

/-! ### loops -/
theorem WC.loop {X:Type} (I:X→St) (P:X→Prop) (μ:X→Nat) {c:Code} {σ:St} {Q:AEx→St→Prop} (x0:X) (θ0:List Nat) (h0:P x0) (hc:Conv σ (I x0) θ0)
  (round:∀ x,P x→WC C n c (I x) (Hd (fun σ'=>∃ x' θ,P x'∧μ x' < μ x∧Conv σ' (I x') θ) Q)):WC C n (.loop c) σ Q:=fun V0 a0 hR0=>by
 intro b k cs
 have key:∀ (m:Nat) (x:X) (V:View) (a:Act),μ x=m→P x→Later V0 V→Rel C n V (I x) a →
   ∃ e a' w',Kn C n V0 Q e a' w'∧Arrives C.P (lone (b.at a (.code c::.inLoop c::k)) cs V.w) b k cs e a' w':=by
  intro m
  induction m using Nat.strongRecOn with
  | _ m ih =>
    intro x V a hm hP hl hR
    obtain ⟨e,a₁,w₁,⟨V',σ',ax,h1,h2,h3,h4,h5⟩,harr⟩:=round x hP V a hR b (.inLoop c::k) cs
    subst h1
    have out:∀ ax',ax'≠.normal→ExRel V' ax' e→Q ax' σ'→∃ e a' w',Kn C n V0 Q e a' w'∧Arrives C.P (lone (b.at a (.code c::.inLoop c::k)) cs V.w) b k cs e a' w':=fun ax' hne hx hq=>by
     refine ⟨e,a₁,V'.w,⟨V',σ',ax',rfl,hl.trans h2,h3,hx,hq⟩,.pass (x:=.inLoop c) rfl (fun _ _=>.inl ?_) harr⟩
     intro he;subst he
     cases ax' <;> first | exact hx.elim | exact hne rfl
    cases ax with
    | normal =>
      cases e <;> first | exact h4.elim | skip
      obtain ⟨x',θ,hP',hlt,hcv⟩:=h5
      obtain ⟨l1,r1⟩:=h3.conv hcv
      obtain ⟨e₂,a₂,w₂,hq₂,harr₂⟩:=ih (μ x') (hm ▸ hlt) x' _ a₁ rfl hP' ((hl.trans h2).trans l1) r1
      exact ⟨e₂,a₂,w₂,hq₂,.of_steps (Steps.trans harr (.one step_inLoop)) harr₂⟩
    | exit id=>exact out _ (by simp) h4 h5
    | ret=>exact out _ (by simp) h4 h5
    | pan p=>exact out _ (by simp) h4 h5
 obtain ⟨l0,r0⟩:=hR0.conv hc
 obtain ⟨e,a',w',hq,harr⟩:=key _ x0 _ a0 rfl h0 l0 r0
 exact ⟨e,a',w',hq,.of_steps (.one step_loop) harr⟩

/-! ### a function -/
def Aj:Nat→List PVal→Env
 | _,[]=>[]
 | i,p::ps=>(i,p)::Aj (i + 1) ps
theorem L3:∀ (ps:List PVal) (i t:Nat),gt (Aj i ps) t=if i≤t then ps.getD (t - i) .any else .any
 | [],i,t=>by simp [Aj,gt]
 | p::ps,i,t=>by
   simp only [Aj,gt]
   cases hb:Nat.beq i t with
   | true =>
     obtain rfl:=Nat.eq_of_beq_eq_true hb
     simp
   | false =>
     have hne:i≠t:=fun e=>by subst e;simp at hb
     rw [cond_false,L3 ps (i + 1) t]
     by_cases h:i≤t
     ·rw [if_pos (by omega),if_pos h,show t - i=(t - (i + 1)) + 1 by omega];simp
     ·rw [if_neg (by omega),if_neg h]

/-- The results, out of their slots. -/
def E3 (C:Ctx) (σ:St):List ResultVar→List PVal→(List PVal→Prop)→Prop
 | [],acc,K=>K acc.reverse
 | .tmp t::r,acc,K=>E3 C σ r (gt σ.e t::acc) K
 | .cell t ty::r,acc,K=>Ia C ty (gt σ.e t) σ fun q=>E3 C σ r (q::acc) K
def tup:List PVal→PVal
 | [p]=>p
 | ps=>.tuple ps

def Rc (tmps:Array Value):ResultVar→Sem Value
 | .tmp t=>pure (tmps.getD t undef)
 | .cell a t=>do loadVar t (← asAddr (tmps.getD a undef))

theorem Iw {V:View} {σ:St} {a:Act} (hR:Rel C n V σ a):∀ (rs:List ResultVar) (acc:List PVal) (vacc:List Value) (K:List PVal→Prop),vacc.length=acc.length→(∀ (j:Nat) (p:PVal),acc[j]? = some p→Rep V p (vacc.getD j undef))→E3 C σ rs acc K →
  ∃ vs ps,(rs.mapM (Rc a.tmps)).run C.P V.w=.ok vs V.w∧K ps∧ps.length=(vacc.reverse ++ vs).length∧∀ (j:Nat) (p:PVal),ps[j]? = some p→Rep V p ((vacc.reverse ++ vs).getD j undef)
 | [],acc,vacc,K,hl,hr,h=>by
   refine ⟨[],acc.reverse,rfl,h,by simp [hl],fun j p hj=>?_⟩
   have hlt:j < acc.length:=by simpa using (List.getElem?_eq_some_iff.1 hj).1
   rw [List.getElem?_reverse hlt] at hj
   have:=hr _ p hj
   rw [List.getD_eq_getElem?_getD] at this ⊢
   rw [List.append_nil,List.getElem?_reverse (by omega),hl]
   exact this
 | .tmp t::r,acc,vacc,K,hl,hr,h=>by
   obtain ⟨vs,ps,h1,h2,h3,h4⟩:=Iw hR r (gt σ.e t::acc) (a.tmps.getD t undef::vacc) K (by simp [hl]) (fun j p hj=>by
    cases j with
    | zero=>simp at hj;subst hj;simpa using hR.env t
    | succ j=>simp at hj;simpa using hr j p hj) h
   refine ⟨a.tmps.getD t undef::vs,ps,?_,h2,by simpa using h3,fun j p hj=>by simpa using h4 j p hj⟩
   rw [List.mapM_cons]
   simp only [Rc,Sem.run_bind,Sem.run_pure,Result.andThen_ok,h1]
 | .cell c ty::r,acc,vacc,K,hl,hr,h=>by
   obtain ⟨u,q,hu,hq,hK⟩:=O3 hR.mem (hR.env c) h
   obtain ⟨vs,ps,h1,h2,h3,h4⟩:=Iw hR r (q::acc) (u::vacc) K (by simp [hl]) (fun j p hj=>by
    cases j with
    | zero=>simp at hj;subst hj;simpa using hq
    | succ j=>simp at hj;simpa using hr j p hj) hK
   refine ⟨u::vs,ps,?_,h2,by simpa using h3,fun j p hj=>by simpa using h4 j p hj⟩
   have hsame:((do loadVar ty (← asAddr (a.tmps.getD c undef))):Sem Value).run C.P V.w=.ok u V.w:=by
    unfold Instr.loadAt Instr.sureAddr at hu
    generalize a.tmps.getD c undef=v at hu
    cases v with
    | pointer p =>
      cases p with
      | none=>simp at hu
      | some a=>simpa [asAddr] using hu
    | _=>simp at hu
   rw [List.mapM_cons]
   simp only [Sem.run_bind]
   rw [show (Rc a.tmps (.cell c ty)).run C.P V.w=.ok u V.w from hsame]
   simp only [Result.andThen_ok,h1,Sem.run_pure]

/-- Whom a block name is to the caller: the handed blocks stay; of the function's own those of θ are handed out. -/
def Ny (m len:Nat) (θ:List Nat):Ref→Ref
 | .o j=>if j < m then .o j else .l (θ.getD (j - m) len)
 | .l _=>.l len
/-- The result p, with the blocks of σ, as the caller sees them. -/
def EndsIn (σ:St) (p:PVal) (R:PVal→List Blk→Prop):Prop :=
 ∃ (θ:List Nat) (p':PVal) (st':List Blk),θ.Nodup∧(∀ j∈θ,j < σ.l.length)∧st'.length=σ.o.length + θ.length∧p=ren (Ny σ.o.length σ.l.length θ) p' ∧
   (∀ (j:Nat) (k:Blk),st'[j]? = some k→Ao σ.o σ.l (Ny σ.o.length σ.l.length θ (.o j))=some (Cu (Ny σ.o.length σ.l.length θ) k))∧R p' st'

def D8 (k:Blk):Prop:=∀ f,Cu f k=k
/-- Nothing of the function's own goes out. -/
theorem EndsIn.plain {σ:St} {p:PVal} {R:PVal→List Blk→Prop} (hp:Closed p) (ho:∀ k∈σ.o,D8 k) (h:R p σ.o):EndsIn σ p R :=
 ⟨[],p,σ.o,List.nodup_nil,by simp,by simp,(hp _).symm,fun j k hk=>by
  have hj:j < σ.o.length:=(List.getElem?_eq_some_iff.1 hk).1
  rw [Ny,if_pos hj,ho k (List.mem_of_getElem? hk) _];exact hk,h⟩

theorem I6 {V:View} {σ:St} {a:Act} (hR:Rel C n V σ a) {p:PVal} {R:PVal→List Blk→Prop} (h:EndsIn σ p R) :
  ∃ V' p' st',V'.w=V.w∧Later V V'∧MemRel C V' (Ao st' [])∧(∀ v,Rep V p v→Rep V' p' v)∧R p' st'∧(∀ b,V'.own b=V.own b)∧∀ j,V.loc (.o j)≠.out→V'.loc (.o j)=V.loc (.o j):=by
 obtain ⟨θ,p',st',hnd,hlt,hlen,rfl,hblk,hr⟩:=h
 have hout:V.loc (.l σ.l.length)=.out:=hR.mem.out _ (Fe σ)
 have holt:∀ j,V.loc (.o j)≠.out→j < σ.o.length:=fun j hj=>by
  rcases Nat.lt_or_ge j σ.o.length with h' | h'
  ·exact h'
  ·exact absurd (hR.mem.out (.o j) (by simp [Ao,h'])) hj
 refine ⟨V.via (Ny σ.o.length σ.l.length θ),p',st',rfl,?_,?_,fun v hv=>hv.via _ rfl,hr,fun _=>rfl,fun j hj=>by simp only [View.via,Ny,if_pos (holt j hj)]⟩
 ·exact ⟨Nat.le_refl _,fun _ _ _=>rfl,fun _ _ h=>h,fun _ _ h _=>h,fun r b x y _ h=>⟨_,x,y,h⟩,fun j hj=>.inl (by simp only [View.via,Ny,if_pos (holt j hj)]),fun _ _ _ _ _ _ _ _ h=>h,rfl,rfl,rfl⟩
 ·have hl:∀ j,(V.via (Ny σ.o.length σ.l.length θ)).loc (.l j)=.out:=fun j=>hout
  have hge:∀ j,σ.o.length + θ.length≤j→(V.via (Ny σ.o.length σ.l.length θ)).loc (.o j)=.out:=fun j hj=>by
   simp only [View.via,Ny]
   rw [if_neg (by omega),List.getD_eq_getElem?_getD,List.getElem?_eq_none (by omega)]
   exact hout
  refine ⟨fun r k hk=>?_,fun r hk=>?_,fun r r' b x y x' y' h1 h2=>?_,fun r b x y h1=>hR.mem.own _ b x y h1,hR.mem.lt,hR.mem.glob⟩
  ·cases r with
   | o j=>exact (hR.mem.blk _ _ (hblk j k hk)).via
   | l j=>simp [Ao] at hk
  ·cases r with
   | o j=>exact hge j (by simp only [Ao] at hk;rw [←hlen];simpa using hk)
   | l j=>exact hl j
  ·have e:=hR.mem.inj _ _ b x y x' y' h1 h2
   cases r with
   | l j=>rw [hl j] at h1;cases h1
   | o j =>
     cases r' with
     | l j'=>rw [hl j'] at h2;cases h2
     | o j' =>
       have l1:j < σ.o.length + θ.length:=by
        rcases Nat.lt_or_ge j (σ.o.length + θ.length) with h' | h'
        ·exact h'
        ·rw [hge j h'] at h1;cases h1
       have l2:j' < σ.o.length + θ.length:=by
        rcases Nat.lt_or_ge j' (σ.o.length + θ.length) with h' | h'
        ·exact h'
        ·rw [hge j' h'] at h2;cases h2
       simp only [Ny] at e
       by_cases c1:j < σ.o.length
       ·by_cases c2:j' < σ.o.length
        ·rw [if_pos c1,if_pos c2] at e;exact e
        ·rw [if_pos c1,if_neg c2] at e;cases e
       ·by_cases c2:j' < σ.o.length
        ·rw [if_neg c1,if_pos c2] at e;cases e
        ·rw [if_neg c1,if_neg c2] at e
         simp only [Ref.l.injEq,List.getD_eq_getElem?_getD] at e
         rw [List.getElem?_eq_getElem (by omega),List.getElem?_eq_getElem (by omega)] at e
         have e':θ[j - σ.o.length]? = θ[j' - σ.o.length]? := by rw [List.getElem?_eq_getElem (by omega),List.getElem?_eq_getElem (by omega)];exact congrArg some e
         have:=(List.getElem?_inj (by omega) hnd).1 e'
         rw [show j=j' by omega]

/-- What is met at a function's end. -/
def FnQ (C:Ctx) (fn:Func) (R:PRes→List Blk→Prop):AEx→St→Prop
 | .normal,σ | .ret,σ=>σ.d=[]∧E3 C σ fn.results.toList [] fun ps=>EndsIn σ (tup ps) fun p st=>R (.ret p) st
 | .pan p,σ=>σ.d=[]∧EndsIn σ p fun p st=>R (.pan p) st
 | .exit _,_=>False

theorem FSem.enter {f:FuncId} {fn:Func} {c:Code} {args:List PVal} {st:List Blk} {R:PRes→List Blk→Prop} (hf:C.P.funcs[f]? = some fn) (hb:fn.body=some c) (hok:okF C.P f=true)
  (ha:args.length≤fn.ntmps) (h:WC C fn.ntmps c ⟨Aj 0 args,st,[],[]⟩ (FnQ C fn R)):FSem C f args st R:=by
 refine ⟨hok,fun V vs hM hvs=>calls_of_wp hf hb ?_⟩
 have hsz:vs.size=args.length:=hvs.1
 have hR:Rel C fn.ntmps V ⟨Aj 0 args,st,[],[]⟩ { tmps:=vs ++ Array.replicate (fn.ntmps - vs.size) undef,defers:=[] }:=by
  refine ⟨hM,fun t=>?_,by simp;omega,trivial⟩
  rw [L3,if_pos (Nat.zero_le _),Nat.sub_zero,List.getD_eq_getElem?_getD]
  cases hq:args[t]? with
  | none=>exact .any
  | some p =>
    have hlt:t < args.length:=(List.getElem?_eq_some_iff.1 hq).1
    have:=hvs.2 t p hq
    rw [Array.getD_eq_getD_getElem?] at this ⊢
    rw [Array.getElem?_append_left (by omega)]
    exact this
 have hTo:∀ (V' V'':View) (σ':St) (a':Act),Later V V'→Rel C fn.ntmps V' σ' a'→True:=fun _ _ _ _ _ _=>trivial
 refine wp_mono (h V _ hR) fun e a' w' ⟨V',σ',x,h1,h2,h3,h4,h5⟩=>?_
 subst h1
 have to:∀ V'':View,V''.w=V'.w→Later V' V''→(∀ j,V'.loc (.o j)≠.out→V''.loc (.o j)=V'.loc (.o j))→V.To V'':=fun V'' hw hl hlo=>by
  have hl2:=h2.trans hl
  refine ⟨hl2.size,fun b hb hno=>hl2.heap b hb fun r x y hr=>hno (hM.own r b x y hr),hl2.own,fun r hr=>?_,fun r b base size hr he ty m hs=>?_⟩
  ·cases r with
   | o j=>exact hl2.loc j hr
   | l j=>exact absurd (hM.out (.l j) (by simp [Ao])) hr
  ·cases r with
   | o j=>exact hl2.shape j b base size hr he ty m hs
   | l j=>rw [hM.out (.l j) (by simp [Ao])] at hr;cases hr
 have fin:σ'.d=[]∧E3 C σ' fn.results.toList [] (fun ps=>EndsIn σ' (tup ps) fun p st=>R (.ret p) st) →
   a'.defers=[]∧∃ v,(results fn a'.tmps).run C.P V'.w=.ok v V'.w∧∃ V'' st' r,V''.w=V'.w∧V.To V''∧Later V V''∧MemRel C V'' (Ao st' [])∧Ji V'' r (.returned v)∧R r st':=fun ⟨hd,hres⟩=>by
  constructor
  ·have:=h3.defers
   rw [hd] at this
   cases hdd:a'.defers with
   | nil=>rfl
   | cons=>rw [hdd] at this;exact this.elim
  ·obtain ⟨rvs,ps,k1,k2,k3,k4⟩:=Iw h3 fn.results.toList [] [] _ rfl (fun j p hj=>by simp at hj) hres
   simp only [List.reverse_nil,List.nil_append] at k3 k4
   obtain ⟨V'',p',st',e1,e2,e3,e4,e5,e6,e7⟩:=I6 h3 k2
   have hrun:(results fn a'.tmps).run C.P V'.w=.ok (if h:rvs.length=1 then rvs[0] else .tuple rvs.toArray) V'.w:=by
    have e:results fn a'.tmps=(do
      let vs ← fn.results.mapM (Rc a'.tmps)
      pure (if h:vs.size=1 then vs[0] else .tuple vs)):=rfl
    rw [e,Array.mapM_eq_mapM_toList]
    simp [k1]
   refine ⟨_,hrun,V'',st',.ret p',e1,to V'' e1 e2 e7,h2.trans e2,e3,e4 _ ?_,e5⟩
   clear hres k2 e4 hrun
   by_cases h1:rvs.length=1
   ·rw [dif_pos h1]
    obtain ⟨p,rfl⟩:∃ p,ps=[p]:=by
     match ps,k3 with
     | [p],_=>exact ⟨p,rfl⟩
     | [],k3=>simp at k3;omega
     | _::_::_,k3=>simp at k3;omega
    have:=k4 0 p rfl
    rw [List.getD_eq_getElem?_getD,List.getElem?_eq_getElem (by omega)] at this
    exact this
   ·rw [dif_neg h1]
    have:tup ps=.tuple ps:=by
     match ps,k3 with
     | [p],k3=>simp at k3;omega
     | [],_=>rfl
     | _::_::_,_=>rfl
    rw [this]
    refine .tuple (by simpa using k3.symm) fun j p hj=>?_
    have:=k4 j p hj
    rw [List.getD_eq_getElem?_getD] at this
    rw [Array.getD_eq_getD_getElem?]
    simpa using this
 cases x with
 | normal=>cases e <;> first | exact h4.elim | exact fin h5
 | ret=>cases e <;> first | exact h4.elim | exact fin h5
 | exit id=>exact h5.elim
 | pan p =>
   cases e <;> first | exact h4.elim | skip
   rename_i chain
   obtain ⟨v,rfl,hv⟩:=h4
   obtain ⟨hd,hend⟩:=h5
   obtain ⟨V'',p',st',e1,e2,e3,e4,e5,e6,e7⟩:=I6 h3 hend
   refine ⟨?_,V'',st',.pan p',e1,to V'' e1 e2 e7,h2.trans e2,e3,⟨v,rfl,e4 v hv⟩,e5⟩
   have:=h3.defers
   rw [hd] at this
   cases hdd:a'.defers with
   | nil=>rfl
   | cons=>rw [hdd] at this;exact this.elim

theorem Xr {f:FuncId} {fn:Func} {c:Code} {n:Nat} {args:List PVal} {st:List Blk} {R:PRes→List Blk→Prop} (hf:C.P.funcs[f]? = some fn) (hb:fn.body=some c) (hn:fn.ntmps=n) (hok:okF C.P f=true)
  (ha:args.length≤n) (h:WC C n c ⟨Aj 0 args,st,[],[]⟩ (FnQ C fn R)):FSem C f args st R:=by
 subst hn;exact FSem.enter hf hb hok ha h
end Go.V
namespace Go.V
open Go

variable {C:Ctx} {n:Nat}

/-- To the callee, handed block number j is the caller's ρ[j]. -/
def A4 (ρ:List Ref) (len:Nat):Ref→Ref
 | .o j=>ρ.getD j (.l len)
 | .l _=>.l len
/-- To the caller, the callee's block number j. -/
def Ec (ρ:List Ref) (len:Nat):Ref→Ref
 | .o j=>if j < ρ.length then ρ.getD j (.l len) else .l (len + (j - ρ.length))
 | .l j=>.l (len + (j + 1000000))

def By (σ:St):List Ref→List Blk→St
 | r::ρ,k::ks=>By (A1 σ r k) ρ ks
 | [],ks=>{ σ with l:=σ.l ++ ks }
 | _::_,[]=>σ

theorem S3:∀ (ρ:List Ref) (ks:List Blk) (σ:St),(By σ ρ ks).e=σ.e∧(By σ ρ ks).d=σ.d
 | [],ks,σ=>by cases ks <;> exact ⟨rfl,rfl⟩
 | r::ρ,[],σ=>⟨rfl,rfl⟩
 | r::ρ,k::ks,σ=>by
   obtain ⟨h1,h2⟩:=S3 ρ ks (A1 σ r k)
   exact ⟨h1.trans (Ni _ _ _),h2.trans (Nj _ _ _)⟩

theorem Yc (σ:St) (r:Ref) (k:Blk):(A1 σ r k).l.length=σ.l.length∧(A1 σ r k).o.length=σ.o.length:=by cases r <;> simp [A1]

theorem N7:∀ (ρ:List Ref) (ks:List Blk) (σ:St),ρ.Nodup→(∀ r∈ρ,(Ao σ.o σ.l r).isSome=true)→ρ.length≤ks.length →
  (∀ (j:Nat) (r:Ref),ρ[j]? = some r→Ao (By σ ρ ks).o (By σ ρ ks).l r=ks[j]?) ∧
  (∀ r,r ∉ ρ→(∀ m,r=.l m→m < σ.l.length)→Ao (By σ ρ ks).o (By σ ρ ks).l r=Ao σ.o σ.l r) ∧
  (∀ q,Ao (By σ ρ ks).o (By σ ρ ks).l (.l (σ.l.length + q))=ks[ρ.length + q]?)
 | [],ks,σ,_,_,_=>by
   have e:By σ [] ks={ σ with l:=σ.l ++ ks }:=by cases ks <;> rfl
   rw [e]
   refine ⟨fun j r hr=>by simp at hr,fun r _ hr=>?_,fun q=>?_⟩
   ·cases r with
    | o j=>rfl
    | l m=>simp only [Ao];rw [List.getElem?_append_left (hr m rfl)]
   ·simp only [Ao];rw [List.getElem?_append_right (by omega)];simp
 | r::ρ,[],σ,_,_,hl=>by simp at hl
 | r::ρ,k::ks,σ,hnd,hs,hl=>by
   have hr:=hs r List.mem_cons_self
   obtain ⟨k0,hk0⟩:=Option.isSome_iff_exists.1 hr
   have hb:=Ep (σ:=σ) (k:=k) hk0
   rw [List.nodup_cons] at hnd
   obtain ⟨h1,h2,h3⟩:=N7 ρ ks (A1 σ r k) hnd.2 (fun x hx=>by
    have hne:x≠r:=fun e=>by subst e;exact hnd.1 hx
    rw [hb,Kt hne];exact hs x (List.mem_cons_of_mem _ hx)) (by simpa using hl)
   have hlen:=Yc σ r k
   refine ⟨fun j x hx=>?_,fun x hx hx'=>?_,fun q=>?_⟩
   ·cases j with
    | zero =>
      simp at hx;subst hx
      show Ao (By (A1 σ r k) ρ ks).o (By (A1 σ r k) ρ ks).l r=_
      rw [h2 r hnd.1 (fun m hm=>by
       rw [hlen.1];subst hm
       simp only [Ao] at hk0
       exact (List.getElem?_eq_some_iff.1 hk0).1),hb,Ks]
      rfl
    | succ j=>simp at hx;exact h1 j x hx
   ·show Ao (By (A1 σ r k) ρ ks).o (By (A1 σ r k) ρ ks).l x=_
    rw [h2 x (fun h=>hx (List.mem_cons_of_mem _ h)) (fun m hm=>by rw [hlen.1];exact hx' m hm),hb,Kt (fun e=>hx (by subst e;exact List.mem_cons_self))]
   ·have:=h3 q
    rw [hlen.1] at this
    show Ao (By (A1 σ r k) ρ ks).o (By (A1 σ r k) ρ ks).l _=_
    rw [this]
    simp only [List.length_cons]
    rw [show ρ.length + 1 + q=(ρ.length + q) + 1 by omega,List.getElem?_cons_succ]

/-- What comes back, under the caller's names. -/
def renR (f:Ref→Ref):PRes→PRes
 | .ret p=>.ret (ren f p)
 | .pan p=>.pan (ren f p)
/-- THE BLOCKS ρ ARE HANDED OVER, and come back. -/
theorem handed {args:List PVal} {σ:St} {args':List PVal} {st:List Blk} (ρ:List Ref) (hnd:ρ.Nodup)
  (hargs:args=Ba (A4 ρ σ.l.length) args') (hlen:ρ.length=st.length) (hst:∀ (j:Nat) (r:Ref) (k:Blk),ρ[j]? = some r→st[j]? = some k→Ao σ.o σ.l r=some (Cu (A4 ρ σ.l.length) k))
  {V:View} {vs:Array Value} (hM:MemRel C V (Ao σ.o σ.l)) (hvs:Ca V args vs) :
  ∃ Vc:View,Vc.w=V.w∧MemRel C Vc (Ao st [])∧Ca Vc args' vs∧(∀ p v,Rep V (ren (A4 ρ σ.l.length) p) v→Rep Vc p v) ∧
    ∀ (Vc':View) (st':List Blk) (r:PRes) (e:Ending),Vc.To Vc'→Later Vc Vc'→MemRel C Vc' (Ao st' [])→Ji Vc' r e →
      ∃ V':View,V'.w=Vc'.w∧Went C V σ V' (By σ ρ (st'.map (Cu (Ec ρ σ.l.length))))∧Ji V' (renR (Ec ρ σ.l.length) r) e:=by
 have hout:V.loc (.l σ.l.length)=.out:=hM.out _ (Fe σ)
 have hsome:∀ r∈ρ,(Ao σ.o σ.l r).isSome=true:=fun r hr=>by
  obtain ⟨j,hj,rfl⟩:=List.getElem_of_mem hr
  rw [hst j _ _ (List.getElem?_eq_getElem hj) (List.getElem?_eq_getElem (by omega))];rfl
 have hnew:∀ m,σ.l.length≤m→Ref.l m ∉ ρ:=fun m hm hr=>by
  have:=hsome _ hr
  simp [Ao,hm] at this
 have hVc:∀ j,(V.via (A4 ρ σ.l.length)).loc (.o j)=match ρ[j]? with | some r=>V.loc r | none=>.out:=fun j=>by
  simp only [View.via,A4,List.getD_eq_getElem?_getD]
  cases ρ[j]? with
  | none=>exact hout
  | some r=>rfl
 have hMc:MemRel C (V.via (A4 ρ σ.l.length)) (Ao st []):=by
  refine ⟨fun r k hk=>?_,fun r hk=>?_,fun r r' b x y x' y' h1 h2=>?_,fun r b x y h1=>hM.own _ b x y h1,hM.lt,hM.glob⟩
  ·cases r with
   | l j=>simp [Ao] at hk
   | o j =>
     simp only [Ao] at hk
     have hj:j < ρ.length:=by rw [hlen];exact (List.getElem?_eq_some_iff.1 hk).1
     have e:A4 ρ σ.l.length (.o j)=ρ[j]:=by simp [A4,List.getD_eq_getElem?_getD,hj]
     refine BlkRep.via ?_
     rw [e]
     exact hM.blk _ _ (hst j _ k (List.getElem?_eq_getElem hj) hk)
  ·cases r with
   | l j=>exact hout
   | o j =>
     simp only [Ao] at hk
     rw [hVc]
     have:ρ[j]? = none:=by simp at hk ⊢;omega
     rw [this]
  ·have e:=hM.inj _ _ b x y x' y' h1 h2
   cases r with
   | l j=>simp only [View.via,A4] at h1;rw [hout] at h1;cases h1
   | o j =>
     cases r' with
     | l j=>simp only [View.via,A4] at h2;rw [hout] at h2;cases h2
     | o j' =>
       rw [hVc] at h1 h2
       cases h1':ρ[j]? with
       | none=>rw [h1'] at h1;cases h1
       | some u =>
         cases h2':ρ[j']? with
         | none=>rw [h2'] at h2;cases h2
         | some u' =>
           simp only [A4,List.getD_eq_getElem?_getD,h1',h2',Option.getD_some] at e
           subst e
           have:=(List.getElem?_inj (List.getElem?_eq_some_iff.1 h1').1 hnd).1 (h1'.trans h2'.symm)
           rw [this]
 have hvs':Ca (V.via (A4 ρ σ.l.length)) args' vs:=by
  rw [hargs,Bw] at hvs
  exact ⟨by simpa using hvs.1,fun j p hp=>(hvs.2 j (ren (A4 ρ σ.l.length) p) (by simp [hp])).via p rfl⟩
 refine ⟨V.via (A4 ρ σ.l.length),rfl,hMc,hvs',fun p v h=>h.via p rfl,fun Vc' st' r e hTo hLa hM' hEnd=>?_⟩
 -- how many blocks come back
 have hge:ρ.length≤st'.length:=by
  rcases Nat.lt_or_ge st'.length ρ.length with h | h
  ·exfalso
   have h1:(V.via (A4 ρ σ.l.length)).loc (.o st'.length)≠.out:=by
    rw [hVc,List.getElem?_eq_getElem h]
    intro h'
    replace h':V.loc ρ[st'.length]=.out:=h'
    have:=hsome _ (List.getElem_mem h)
    obtain ⟨k,hk⟩:=Option.isSome_iff_exists.1 this
    have hb:=hM.blk _ _ hk
    cases k with
    | dead=>rw [show V.loc ρ[st'.length]=.dead from hb] at h';cases h'
    | row=>rcases hb with ⟨h1,_⟩ | ⟨_,_,_,_,h1,_⟩ <;> rw [h1] at h' <;> cases h'
    | mp=>obtain ⟨_,_,_,h1,_⟩:=hb;rw [h1] at h';cases h'
    | iter=>obtain ⟨_,h1,_⟩:=hb;rw [h1] at h';cases h'
   have h2:=hM'.out (.o st'.length) (by simp [Ao])
   rcases hTo.loc _ h1 with h3 | h3
   ·exact h1 (h3.symm.trans h2)
   ·rw [h2] at h3;cases h3
  ·exact h
 let L:Ref→Loc:=fun r=>if r∈ρ then Vc'.loc (.o (ρ.idxOf r)) else match r with
  | .l m=>if σ.l.length≤m then Vc'.loc (.o (ρ.length + (m - σ.l.length))) else V.loc r
  | .o _=>V.loc r
 let V':View:={ w:=Vc'.w,own:=Vc'.own,loc:=L }
 have hidx:∀ (j:Nat) (hj:j < ρ.length),ρ.idxOf ρ[j]=j:=fun j hj=>List.Nodup.idxOf_getElem hnd j hj
 have Lin:∀ (j:Nat) (hj:j < ρ.length),L ρ[j]=Vc'.loc (.o j):=fun j hj=>by
  simp only [L,if_pos (List.getElem_mem hj),hidx j hj]
 have Lnew:∀ q,L (.l (σ.l.length + q))=Vc'.loc (.o (ρ.length + q)):=fun q=>by
  simp only [L,if_neg (hnew _ (Nat.le_add_right _ q)),if_pos (Nat.le_add_right _ q),Nat.add_sub_cancel_left]
 have Lold:∀ r,r ∉ ρ→(∀ m,r=.l m→m < σ.l.length)→L r=V.loc r:=fun r hr hm=>by
  simp only [L,if_neg hr]
  cases r with
  | o j=>rfl
  | l m=>have:=hm m rfl;simp only;rw [if_neg (by omega)]
 have Lg:∀ r,Vc'.loc r≠.out→V'.loc (Ec ρ σ.l.length r)=Vc'.loc r:=fun r hr=>by
  cases r with
  | l j=>exact absurd (hM'.out (.l j) (by simp [Ao])) hr
  | o j =>
    simp only [V',Ec]
    by_cases hj:j < ρ.length
    ·rw [if_pos hj]
     have:ρ.getD j (.l σ.l.length)=ρ[j]:=by simp [List.getD_eq_getElem?_getD,hj]
     rw [this];exact Lin j hj
    ·rw [if_neg hj,Lnew,show ρ.length + (j - ρ.length)=j by omega]
 have hTo':V.To V':=by
  refine ⟨hTo.size,hTo.heap,hTo.own,fun x hx=>?_,fun x b base size hl he ty m hs=>?_⟩
  ·by_cases hxr:x∈ρ
   ·obtain ⟨j,hj,rfl⟩:=List.getElem_of_mem hxr
    have e1:(V.via (A4 ρ σ.l.length)).loc (.o j)=V.loc ρ[j]:=by rw [hVc,List.getElem?_eq_getElem hj]
    have:=hTo.loc (.o j) (by rw [e1];exact hx)
    rw [e1] at this
    simp only [V'];rw [Lin j hj];exact this
   ·refine .inl (Lold x hxr fun m hm=>?_)
    rcases Nat.lt_or_ge m σ.l.length with h | h
    ·exact h
    ·exact absurd (hM.out x (by subst hm;simp [Ao,h])) hx
  ·by_cases hxr:x∈ρ
   ·obtain ⟨j,hj,rfl⟩:=List.getElem_of_mem hxr
    have e1:(V.via (A4 ρ σ.l.length)).loc (.o j)=V.loc ρ[j]:=by rw [hVc,List.getElem?_eq_getElem hj]
    exact hTo.shape (.o j) b base size (by rw [e1];exact hl) (by rw [e1,← Lin j hj];exact he) ty m hs
   ·have hb:b < V.w.heap.size:=hM.lt b (hM.own x b _ _ hl)
    have:=hLa.heap b hb fun r' x' y' h'=>by
     cases r' with
     | l j=>simp only [View.via,A4] at h';rw [hout] at h';cases h'
     | o j =>
       rw [hVc] at h'
       cases hj:ρ[j]? with
       | none=>rw [hj] at h';cases h'
       | some u =>
         rw [hj] at h'
         have:=hM.inj _ _ _ _ _ _ _ hl h'
         exact hxr (this ▸ List.mem_of_getElem? hj)
    rw [E5 this];exact hs
 have hnoVc:∀ b,(∀ r x y,V.loc r≠.at b x y)→∀ r x y,(V.via (A4 ρ σ.l.length)).loc r≠.at b x y:=fun b h r x y hr=>h _ x y hr
 have hLa':Later V V':=by
  refine ⟨hTo.size,fun b hb h=>hLa.heap b hb (hnoVc b h),hTo.own,fun b hb ho h=>hLa.kept b hb ho (hnoVc b h),fun r b x y hb hr=>?_,fun j hj=>hTo'.loc _ hj,fun j=>hTo'.shape _,hLa.os,hLa.tape,hLa.output⟩
  have old:∀ z,Vc'.loc z=.at b x y→∃ r' x' y',V.loc r'=.at b x' y':=fun z hz=>by
   obtain ⟨r',x',y',h'⟩:=hLa.locs z b x y hb hz
   exact ⟨_,x',y',h'⟩
  simp only [V',L] at hr
  split at hr
  ·exact old _ hr
  ·split at hr
   ·split at hr
    ·exact old _ hr
    ·exact ⟨_,_,_,hr⟩
   ·exact ⟨_,_,_,hr⟩
 obtain ⟨s1,s2,s3⟩:=N7 ρ (st'.map (Cu (Ec ρ σ.l.length))) σ hnd hsome (by simpa using hge)
 -- the names are of three kinds
 have kinds:∀ r,(∃ j,∃ hj:j < ρ.length,r=ρ[j])∨(∃ q,r=.l (σ.l.length + q))∨(r ∉ ρ∧∀ m,r=.l m→m < σ.l.length):=fun r=>by
  by_cases hr:r∈ρ
  ·obtain ⟨j,hj,rfl⟩:=List.getElem_of_mem hr;exact .inl ⟨j,hj,rfl⟩
  ·cases r with
   | o j=>exact .inr (.inr ⟨hr,fun m hm=>by cases hm⟩)
   | l m =>
     rcases Nat.lt_or_ge m σ.l.length with h | h
     ·exact .inr (.inr ⟨hr,fun m' hm=>by cases hm;exact h⟩)
     ·exact .inr (.inl ⟨m - σ.l.length,by rw [Nat.add_sub_cancel' h]⟩)
 have gin:∀ (j:Nat) (hj:j < ρ.length),Ec ρ σ.l.length (.o j)=ρ[j]:=fun j hj=>by
  simp [Ec,hj,List.getD_eq_getElem?_getD]
 have gnew:∀ q,Ec ρ σ.l.length (.o (ρ.length + q))=.l (σ.l.length + q):=fun q=>by
  simp only [Ec]
  rw [if_neg (by omega),Nat.add_sub_cancel_left]
 have hMM:MemRel C V' (Ao (By σ ρ (st'.map (Cu (Ec ρ σ.l.length)))).o (By σ ρ (st'.map (Cu (Ec ρ σ.l.length)))).l):=by
  refine ⟨fun r k hk=>?_,fun r hk=>?_,fun r r' b x y x' y' h1 h2=>?_,fun r b x y h1=>?_,hM'.lt,hM'.glob⟩
  ·rcases kinds r with ⟨j,hj,rfl⟩ | ⟨q,rfl⟩ | ⟨hr,hm⟩
   ·rw [s1 j _ (List.getElem?_eq_getElem hj)] at hk
    simp only [List.getElem?_map,Option.map_eq_some_iff] at hk
    obtain ⟨k',hk',rfl⟩:=hk
    rw [←gin j hj]
    exact BlkRep.of_via (V:=V') (V':=Vc') rfl (fun _ h=>h) Lg (hM'.blk (.o j) k' hk')
   ·rw [s3 q] at hk
    simp only [List.getElem?_map,Option.map_eq_some_iff] at hk
    obtain ⟨k',hk',rfl⟩:=hk
    rw [←gnew q]
    exact BlkRep.of_via (V:=V') (V':=Vc') rfl (fun _ h=>h) Lg (hM'.blk (.o (ρ.length + q)) k' hk')
   ·rw [s2 r hr hm] at hk
    refine (hM.blk r k hk).mono hTo' (Lold r hr hm) fun b x y hl=>?_
    refine hLa.heap b (hM.lt b (hM.own r b x y hl)) fun r' x' y' h'=>?_
    cases r' with
    | l j=>simp only [View.via,A4] at h';rw [hout] at h';cases h'
    | o j =>
      rw [hVc] at h'
      cases hj:ρ[j]? with
      | none=>rw [hj] at h';cases h'
      | some u =>
        rw [hj] at h'
        have:=hM.inj _ _ _ _ _ _ _ hl h'
        exact hr (this ▸ List.mem_of_getElem? hj)
  ·rcases kinds r with ⟨j,hj,rfl⟩ | ⟨q,rfl⟩ | ⟨hr,hm⟩
   ·rw [s1 j _ (List.getElem?_eq_getElem hj)] at hk
    exfalso
    rw [List.getElem?_eq_getElem (by simp;omega)] at hk
    cases hk
   ·rw [s3 q] at hk
    show L _=_
    rw [Lnew]
    exact hM'.out _ (by simpa [Ao] using hk)
   ·rw [s2 r hr hm] at hk
    show L _=_
    rw [Lold r hr hm];exact hM.out r hk
  ·-- no two names for one block
   have cross:∀ z r2 b x y x' y',Vc'.loc z=.at b x y→r2 ∉ ρ→V.loc r2=.at b x' y'→False:=fun z r2 b x y x' y' hz hr2 h2=>by
    have hb:b < V.w.heap.size:=hM.lt b (hM.own r2 b _ _ h2)
    obtain ⟨r3,x3,y3,h3⟩:=hLa.locs z b x y hb hz
    cases r3 with
    | l j=>simp only [View.via,A4] at h3;rw [hout] at h3;cases h3
    | o j =>
      rw [hVc] at h3
      cases hj:ρ[j]? with
      | none=>rw [hj] at h3;cases h3
      | some u =>
        rw [hj] at h3
        have:=hM.inj _ _ _ _ _ _ _ h2 h3
        exact hr2 (this ▸ List.mem_of_getElem? hj)
   rcases kinds r with ⟨j,hj,rfl⟩ | ⟨q,rfl⟩ | ⟨hr,hm⟩
   ·have h1':Vc'.loc (.o j)=.at b x y:=by rw [←Lin j hj];exact h1
    rcases kinds r' with ⟨j',hj',rfl⟩ | ⟨q',rfl⟩ | ⟨hr',hm'⟩
    ·have h2':Vc'.loc (.o j')=.at b x' y':=by rw [←Lin j' hj'];exact h2
     have:=hM'.inj _ _ _ _ _ _ _ h1' h2'
     cases this;rfl
    ·have h2':Vc'.loc (.o (ρ.length + q'))=.at b x' y':=by rw [←Lnew q'];exact h2
     have:=hM'.inj _ _ _ _ _ _ _ h1' h2'
     simp only [Ref.o.injEq] at this
     omega
    ·exact (cross _ r' b x y x' y' h1' hr' (by rw [←Lold r' hr' hm'];exact h2)).elim
   ·have h1':Vc'.loc (.o (ρ.length + q))=.at b x y:=by rw [←Lnew q];exact h1
    rcases kinds r' with ⟨j',hj',rfl⟩ | ⟨q',rfl⟩ | ⟨hr',hm'⟩
    ·have h2':Vc'.loc (.o j')=.at b x' y':=by rw [←Lin j' hj'];exact h2
     have:=hM'.inj _ _ _ _ _ _ _ h1' h2'
     simp only [Ref.o.injEq] at this
     omega
    ·have h2':Vc'.loc (.o (ρ.length + q'))=.at b x' y':=by rw [←Lnew q'];exact h2
     have:=hM'.inj _ _ _ _ _ _ _ h1' h2'
     simp only [Ref.o.injEq] at this
     rw [show q=q' by omega]
    ·exact (cross _ r' b x y x' y' h1' hr' (by rw [←Lold r' hr' hm'];exact h2)).elim
   ·have h1':V.loc r=.at b x y:=by rw [←Lold r hr hm];exact h1
    rcases kinds r' with ⟨j',hj',rfl⟩ | ⟨q',rfl⟩ | ⟨hr',hm'⟩
    ·exact (cross _ r b x' y' x y (by rw [←Lin j' hj'];exact h2) hr h1').elim
    ·exact (cross _ r b x' y' x y (by rw [←Lnew q'];exact h2) hr h1').elim
    ·exact hM.inj _ _ _ _ _ _ _ h1' (by rw [←Lold r' hr' hm'];exact h2)
  ·rcases kinds r with ⟨j,hj,rfl⟩ | ⟨q,rfl⟩ | ⟨hr,hm⟩
   ·exact hM'.own (.o j) b x y (by rw [←Lin j hj];exact h1)
   ·exact hM'.own (.o (ρ.length + q)) b x y (by rw [←Lnew q];exact h1)
   ·have h1':V.loc r=.at b x y:=by rw [←Lold r hr hm];exact h1
    refine hLa.kept b (hM.lt b (hM.own r b x y h1')) (hM.own r b x y h1') fun r' x' y' h'=>?_
    cases r' with
    | l j=>simp only [View.via,A4] at h';rw [hout] at h';cases h'
    | o j =>
      rw [hVc] at h'
      cases hj:ρ[j]? with
      | none=>rw [hj] at h';cases h'
      | some u =>
        rw [hj] at h'
        have:=hM.inj _ _ _ _ _ _ _ h1' h'
        exact hr (this ▸ List.mem_of_getElem? hj)
 obtain ⟨ee,ed⟩:=S3 ρ (st'.map (Cu (Ec ρ σ.l.length))) σ
 cases r with
 | ret p =>
   cases e with
   | returned v=>exact ⟨V',rfl,⟨hTo',hLa',hMM,ee,ed⟩,Rep.of_via (V:=V') (V':=Vc') rfl (fun _ h=>h) Lg hEnd⟩
   | panicked=>exact hEnd.elim
   | outgrown=>exact hEnd.elim
 | pan p =>
   cases e with
   | returned v=>exact hEnd.elim
   | panicked chain =>
     obtain ⟨v,rfl,hv⟩:=hEnd
     exact ⟨V',rfl,⟨hTo',hLa',hMM,ee,ed⟩,⟨v,rfl,Rep.of_via (V:=V') (V':=Vc') rfl (fun _ h=>h) Lg hv⟩⟩
   | outgrown=>exact hEnd.elim
/-- A CALL BY THE FUNCTION's MEANING: the blocks ρ are handed over. -/
theorem CallW.of {g:FuncId} {args:List PVal} {σ:St} {K KP:PVal→St→Prop} {args':List PVal} {st:List Blk} {R:PRes→List Blk→Prop} (spec:FSem C g args' st R) (ρ:List Ref) (hnd:ρ.Nodup)
  (hargs:args=Ba (A4 ρ σ.l.length) args') (hlen:ρ.length=st.length) (hst:∀ (j:Nat) (r:Ref) (k:Blk),ρ[j]? = some r→st[j]? = some k→Ao σ.o σ.l r=some (Cu (A4 ρ σ.l.length) k))
  (hK:∀ r st',R r st'→match r with
   | .ret p=>K (ren (Ec ρ σ.l.length) p) (By σ ρ (st'.map (Cu (Ec ρ σ.l.length))))
   | .pan p=>KP (ren (Ec ρ σ.l.length) p) (By σ ρ (st'.map (Cu (Ec ρ σ.l.length))))):CallW C g args σ K KP:=by
 refine ⟨spec.1,fun V vs hM hvs=>?_⟩
 obtain ⟨Vc,hw,hMc,hvs',_,hback⟩:=handed ρ hnd hargs hlen hst hM hvs
 have h:=spec.2 Vc vs hMc hvs'
 rw [hw] at h
 refine h.mono fun e w' ⟨Vc',st',r,hw',hTo,hLa,hM',hEnd,hR⟩=>?_
 obtain ⟨V',h1,h2,h3⟩:=hback Vc' st' r e hTo hLa hM' hEnd
 have hKK:=hK r st' hR
 cases r with
 | ret p=>exact ⟨V',_,_,h1.trans hw',h2,h3,hKK⟩
 | pan p=>exact ⟨V',_,_,h1.trans hw',h2,h3,hKK⟩

/-! ### closed values -/
def ClosedL (ps:List PVal):Prop:=∀ f,Ba f ps=ps
theorem ClosedL.nil:ClosedL []:=fun f=>by simp [Ba]
theorem ClosedL.cons {p:PVal} {ps:List PVal} (h:Closed p) (k:ClosedL ps):ClosedL (p::ps):=fun f=>by simp [Ba,h f,k f]
theorem Closed.any:Closed .any:=fun f=>by simp [ren]
theorem Closed.bool (b:Bool):Closed (.bool b):=fun f=>by simp [ren]
theorem Closed.int (k:IntKind) (n:Int):Closed (.int k n):=fun f=>by simp [ren]
theorem Closed.str (s:List UInt8):Closed (.str s):=fun f=>by simp [ren]
theorem Closed.nilp:Closed .nilp:=fun f=>by simp [ren]
theorem Closed.nils:Closed .nils:=fun f=>by simp [ren]
theorem Closed.niliface:Closed .niliface:=fun f=>by simp [ren]
theorem Closed.nilfn:Closed .nilfn:=fun f=>by simp [ren]
theorem Closed.nilmap:Closed .nilmap:=fun f=>by simp [ren]
theorem Closed.gptr (g o:Nat):Closed (.gptr g o):=fun f=>by simp [ren]
theorem Closed.agg {cs:List PVal} (h:ClosedL cs):Closed (.agg cs):=fun f=>by simp [ren,h f]
theorem Closed.tuple {cs:List PVal} (h:ClosedL cs):Closed (.tuple cs):=fun f=>by simp [ren,h f]
theorem Closed.slc {cs:List PVal} (h:ClosedL cs):Closed (.slc cs):=fun f=>by simp [ren,h f]
theorem Closed.iface (t:TypeId) {v:PVal} (h:Closed v):Closed (.iface t v):=fun f=>by simp [ren,h f]
theorem Closed.fn (g:Fn) {a b:List PVal} (h:ClosedL a) (k:ClosedL b):Closed (.fn g a b):=fun f=>by simp [ren,h f,k f]
theorem Closed.fmap {a b:List PVal} (h:ClosedL a) (k:ClosedL b):Closed (.fmap a b):=fun f=>by simp [ren,h f,k f]
theorem Closed.eptr {x:PVal} (h:Closed x) (o:Nat):Closed (.eptr x o):=fun f=>by simp [ren,h f]
theorem ClosedL.map {α:Type} {enc:α→PVal} (h:∀ x,Closed (enc x)) (xs:List α):ClosedL (xs.map enc):=fun f=>by
 induction xs with
 | nil=>simp [Ba]
 | cons x xs ih=>simp [Ba,h x f,ih]

/-- A call of a function that takes and hands back closed values, and touches nothing. -/
theorem CallW.pure {g:FuncId} {args:List PVal} {σ:St} {K KP:PVal→St→Prop} {p:PVal} (spec:FSem C g args [] fun r st=>r=.ret p∧st=[]) (ha:ClosedL args) (hp:Closed p) (h:K p σ):CallW C g args σ K KP :=
 CallW.of spec [] List.nodup_nil (ha _).symm rfl (fun j r k hr=>by simp at hr) fun r st' ⟨h1,h2⟩=>by
  subst h1;subst h2
  simp only [List.map_nil,By,List.append_nil,hp _]
  exact h
end Go.V
