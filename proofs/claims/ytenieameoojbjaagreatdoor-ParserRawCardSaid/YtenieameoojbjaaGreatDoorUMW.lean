/-
 Texts joined: VLib VNum.
-/
import Derived.Test.YtenieameoojbjaaGreatDoorUMC
import Derived.Shelf.Strings.Fields
import Derived.Test.YtenieameoojbjaaGreatDoorUMA
import Derived.Laws.BitsAllLaws
set_option linter.unusedVariables false
set_option linter.unusedSimpArgs false
set_option linter.loopingSimpArgs false
namespace Go.V
open Go

/-- What strings.asciiSpace holds. -/
def Lq:List PVal:=(List.range 256).map fun c=>.int .u8 (if Lib.isSp (UInt8.ofNat c) then 1 else 0)

theorem W5 {V:View} {s:List UInt8} {vs:Array Value} (h:Ca V [.str s] vs):vs=#[.string ⟨⟨s⟩⟩]:=by
 obtain ⟨h1,h2⟩:=h
 have e0:=h2 0 _ rfl
 obtain ⟨z⟩:=vs
 match z,h1 with
 | [q],_ =>
   simp [Array.getD] at e0
   cases e0;rfl

theorem Y9 {C:Ctx} {ρ:Go.Shelf.Ren} (L:Go.Proofs.Lays.n157 C.P ρ) (hi9:(C.P.info? (ρ.t 9)).map (fun i=>(i.zero,i.size,i.bytes))=some (some (.string ByteArray.empty),1,16))
  (hok:okF C.P (ρ.f 157)=true) (hG:C.G (ρ.g 0)=some Lq) (s:List UInt8) (hs:s.length < 4294967281) (hascii:∀ b∈s,b.toNat < 128) :
  FSem C (ρ.f 157) [.str s] [] fun r st=>r=.ret (.slc ((Lib.fields s).map .str))∧st=[]:=by
 refine ⟨hok,fun V vs hM ha=>?_⟩
 rw [W5 ha]
 obtain ⟨hno,hlt,hcells⟩:=hM.glob _ _ hG
 have key:=Go.Proofs.Any.strings_Fields_core L hi9 ⟨⟨s⟩⟩ V.w hs (fun j b hb=>hascii b (List.mem_of_getElem? hb)) fun c hc=>by
  obtain ⟨v,h1,_,h3⟩:=hcells c (.int .u8 (if Lib.isSp (UInt8.ofNat c) then 1 else 0)) (by simp [Lq,hc])
  cases h3;exact h1
 refine key.mono fun e w' ⟨he,hw⟩=>?_
 subst he;subst hw
 let o:Obj:=.cells ((Lib.fields s).map fun l=>Value.string ⟨l.toArray⟩).toArray (ρ.t 9)
 have hTo:V.To { V with w:=V.w.alloc o }:=⟨by simp,fun b hb _=>B6 hb,fun _ _ h=>h,fun _ _=>.inl rfl,fun r b base size hl _ ty n hs'=>by
  have:b < V.w.heap.size:=hM.locLt _ _ _ _ hl
  show (V.w.alloc o).shape? b=_
  rw [E5 (B6 this)];exact hs'⟩
 have hLa:Later V { V with w:=V.w.alloc o }:=⟨by simp,fun b hb _=>B6 hb,fun _ _ h=>h,fun _ _ h _=>h,fun r b x y _ h=>⟨r,x,y,h⟩,fun _ _=>.inl rfl,fun n b base size hl=>hTo.shape _ b base size hl,rfl,rfl,rfl⟩
 refine ⟨{ V with w:=V.w.alloc o },[],_,rfl,hTo,hLa,⟨fun r k hk=>?_,hM.out,hM.inj,hM.own,fun b hb=>?_,fun g cs hg=>?_⟩,?_,rfl,rfl⟩
 ·cases r <;> simp [Ao] at hk
 ·have:=hM.lt b hb
  show b < (V.w.alloc o).heap.size
  rw [World.size_alloc];omega
 ·obtain ⟨h1,hb,h2⟩:=hM.glob g cs hg
  refine ⟨h1,Nat.lt_of_lt_of_le hb hTo.size,fun j c hc=>?_⟩
  obtain ⟨v,hv,h3,h4⟩:=h2 j c hc
  exact ⟨v,by rw [Fx (B6 hb)];exact hv,h3,h4.mono hTo.bare⟩
 ·have hcell:∀ n,n < (Lib.fields s).length→(V.w.alloc o).cell? ⟨V.w.heap.size,n,none⟩=some (.string ⟨((Lib.fields s).getD n []).toArray⟩):=fun n hn=>by
   unfold World.cell?
   simp only [Dg,o]
   simp [hn]
  have hget:∀ (i:Nat) (x:PVal),((Lib.fields s).map PVal.str)[i]? = some x→x=.str ((Lib.fields s).getD i []):=fun i x hx=>by
   simp only [List.getElem?_map,Option.map_eq_some_iff] at hx
   obtain ⟨y,hy,rfl⟩:=hx
   simp [hy]
  have:=Rep.slc (V:={ V with w:=V.w.alloc o }) (xs:=(Lib.fields s).map .str) (b:=V.w.heap.size) (off:=0) (cap:=(Lib.fields s).length) 1 (fun n=>.string ⟨((Lib.fields s).getD n []).toArray⟩)
   (fun h=>Nat.lt_irrefl _ (hM.lt _ h)) (by show _ < (V.w.alloc o).heap.size;rw [World.size_alloc];omega) (by simp)
   (fun n hn=>⟨by rw [Nat.zero_add];exact hcell n (by simpa using hn),rfl⟩)
   (fun i x hx=>by rw [hget i x hx];rfl)
   (fun i x j c hx hc=>by
    rw [hget i x hx] at hc
    cases j with
    | zero=>simp [PVal.cells] at hc;subst hc;rw [Nat.mul_one,Nat.add_zero];exact .str
    | succ j=>simp [PVal.cells] at hc)
  rw [List.length_map] at this
  exact this

/-- A function that leaves the world as it was. -/
theorem Zm {C:Ctx} {f:FuncId} {args:List PVal} {p:PVal} (hok:okF C.P f=true) (h:∀ V vs,Ca V args vs→∃ v,Rep V p v∧Calls C.P f vs V.w fun e w'=>e=.returned v∧w'=V.w) :
  FSem C f args [] fun r st=>r=.ret p∧st=[] :=
 ⟨hok,fun V vs hM ha=>by
  obtain ⟨v,hv,hc⟩:=h V vs ha
  refine hc.mono fun e w' ⟨he,hw⟩=>?_
  subst he;subst hw
  exact ⟨V,[],.ret p,rfl,.refl V,.refl V,hM,hv,rfl,rfl⟩⟩
/-- A call that hands back what leads to a new block. -/
theorem I9 {C:Ctx} {g:FuncId} {args:List PVal} {σ:St} {K KP:PVal→St→Prop} {R':PVal→Blk→Prop} (spec:FSem C g args [] fun q st=>∃ p b,R' p b∧q=.ret p∧st=[b]) (ha:ClosedL args)
  (h:∀ p b,R' p b→D8 b∧K (ren (Ec [] σ.l.length) p) (B8 σ b)):CallW C g args σ K KP :=
 CallW.of spec [] List.nodup_nil (ha _).symm rfl (fun j r k hr=>by simp at hr) fun q st' ⟨p,b,h0,h1,h2⟩=>by
  subst h1;subst h2
  obtain ⟨hb,hk⟩:=h p b h0
  simp only [List.map_cons,List.map_nil,hb _,By]
  exact hk

/-! ### The end: what a walk of the whole function gives the card -/
def Kw (w:World):View:=⟨w,fun _=>.out,fun _=>False⟩
/-- Of what was there nothing turns. -/
structure Same (w w':World):Prop where
 size:w.heap.size≤w'.heap.size
 heap:∀ b,b < w.heap.size→w'.heap[b]? = w.heap[b]?
 os:w'.os=w.os
 tape:w'.tape=w.tape
 output:w'.output=w.output

theorem FSem.top {C:Ctx} {f:FuncId} {args:List PVal} {q:PVal} (h:FSem C f args [] fun r st=>r=.ret q∧st=[]) {w:World} {vs:Array Value}
  (hG:∀ g cs,C.G g=some cs→∀ (j:Nat) (c:PVal),cs[j]? = some c→∃ v,w.cell? ⟨g,j,none⟩=some v∧v.oneCell'=true∧Rep (Kw w) c v) (hlt:∀ g cs,C.G g=some cs→g < w.heap.size)
  (ha:Ca (Kw w) args vs):Calls C.P f vs w fun e w'=>(∃ V' v,e=.returned v∧V'.w=w'∧Rep V' q v)∧Same w w':=by
 have hM:MemRel C (Kw w) (Ao [] []):=⟨fun r k hk=>(by cases r <;> simp [Ao] at hk),fun _ _=>rfl,fun _ _ _ _ _ _ _ h=>(by cases h),fun _ _ _ _ h=>(by cases h),fun _ (h:False)=>h.elim,fun g cs hg=>⟨fun h=>h,hlt g cs hg,hG g cs hg⟩⟩
 refine (h.2 (Kw w) vs hM ha).mono fun e w' ⟨V',st',r,hw,_,hLa,_,hE,hr,_⟩=>?_
 subst hr
 have hS:Same w w':=by
  subst hw
  exact ⟨hLa.size,fun b hb=>hLa.heap b hb (fun _ _ _ h=>by cases h),hLa.os,hLa.tape,hLa.output⟩
 cases e with
 | returned v=>exact ⟨⟨V',v,rfl,hw,hE⟩,hS⟩
 | panicked=>exact hE.elim
 | outgrown=>exact hE.elim
theorem Vj {C:Ctx} {f:FuncId} {args:List PVal} (h:FSem C f args [] fun r st=>r=.ret (.bool true)∧st=[]) {w:World} {vs:Array Value}
  (hG:∀ g cs,C.G g=some cs→∀ (j:Nat) (c:PVal),cs[j]? = some c→∃ v,w.cell? ⟨g,j,none⟩=some v∧v.oneCell'=true∧Rep (Kw w) c v) (hlt:∀ g cs,C.G g=some cs→g < w.heap.size)
  (ha:Ca (Kw w) args vs):Calls C.P f vs w fun e w'=>e=.returned (.bool true)∧Same w w':=by
 refine (h.top hG hlt ha).mono fun e w' ⟨⟨V',v,he,_,hr⟩,hS⟩=>⟨?_,hS⟩
 cases hr;exact he
theorem Same.frozen {w w':World} (h:Same w w') (a:Addr) (ha:a.block < w.heap.size):w'.frozen? a=w.frozen? a:=by
 simp only [World.frozen?,h.heap _ ha]
theorem Same.kept {w w':World} (h:Same w w') (may:MemPlace→Prop):w.keptBut w' may:=by
 refine ⟨h.os,h.output,fun i hi=>?_⟩
 rw [h.heap i hi]
 cases hq:w.heap[i]? with
 | none=>rfl
 | some o=>cases o <;> simp
end Go.V
namespace Go.V
open Go Go.Num

theorem Iv (x:Int):IntKind.wrap .u32 x=x % 4294967296:=IntKind.wrap_u32' x
theorem Dd (x:Int):x.fdiv (2 ^ min 32 IntKind.u64.bits)=x / 4294967296:=by
 rw [show (2:Int) ^ min 32 IntKind.u64.bits=4294967296 by decide];exact Int.fdiv_eq_ediv_of_nonneg _ (by decide)
theorem Gc (x:Int):x * 2 ^ min 32 IntKind.u64.bits=x * 4294967296:=by
 rw [show (2:Int) ^ min 32 IntKind.u64.bits=4294967296 by decide]
theorem shr32_31 (x:Int):x.fdiv (2 ^ min 31 IntKind.u32.bits)=x / 2147483648:=by
 rw [show (2:Int) ^ min 31 IntKind.u32.bits=2147483648 by decide];exact Int.fdiv_eq_ediv_of_nonneg _ (by decide)
theorem Wd (x:Int):x.fdiv (2 ^ min 63 IntKind.u64.bits)=x / 9223372036854775808:=by
 rw [show (2:Int) ^ min 63 IntKind.u64.bits=9223372036854775808 by decide];exact Int.fdiv_eq_ediv_of_nonneg _ (by decide)

/-- A limb. -/
def lb (n:Nat):PVal:=.int .u32 n
/-- Limbs, as a slice that may be read for ever. -/
def lbs (l:List Nat):PVal:=.slc (l.map lb)
theorem Ab (l:List Nat):ClosedL (l.map lb):=ClosedL.map (fun _=>fun _=>rfl) l
theorem As (n:Nat):Closed (lb n)=True:=eq_true (fun _=>rfl)
theorem Al (l:List Nat):Closed (lbs l)=True:=eq_true (.slc (Ab l))
theorem Cc {l:List Nat} {i:Nat} (h:i < l.length):(l.map lb)[i]? = some (lb (l.getD i 0)):=by simp [List.getD_eq_getElem?_getD,h]
theorem Df {l:List Nat} {i:Nat} (h:i < l.length):gi (l.map lb) i=lb (l.getD i 0):=by simp [gi,List.getD_eq_getElem?_getD,h]
theorem Jr (n:Nat):(lb n).cells=[lb n]:=rfl
theorem Ot {l:List Nat}:∀ x∈l.map lb,x.cells.length=1:=fun x hx=>by
 simp only [List.mem_map] at hx
 obtain ⟨y,_,rfl⟩:=hx
 rfl
theorem Bv:B=4294967296:=rfl
end Go.V
