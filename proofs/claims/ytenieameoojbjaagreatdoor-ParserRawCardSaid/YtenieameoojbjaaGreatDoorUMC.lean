/-
 Texts joined: VDraw VDrawB VDrawC VDrawD VDrawE VDrawF VSimp VSimpD VGhost.
-/
import Derived.Test.YtenieameoojbjaaGreatDoorUMB
import Derived.Laws.BitsAllLaws
import Derived.IntWalk
set_option linter.unusedVariables false
set_option linter.unusedSimpArgs false
set_option linter.loopingSimpArgs false
namespace Go.V
open Go

variable {C:Ctx} {n:Nat}

/-! ### A new block that is nobody's -/
def View.anon (V:View) (k:Obj):View:={ V with w:=V.w.alloc k }
theorem Eq {V:View} (hlt:∀ r b x y,V.loc r=.at b x y→b < V.w.heap.size) (k:Obj):V.To (V.anon k) where
 size:=by simp [View.anon]
 heap b hb _:=B6 hb
 own _ _ h:=h
 loc _ _:=.inl rfl
 shape x b base size hl _ ty n hs:=by
  show (V.w.alloc k).shape? b=_
  rw [E5 (B6 (hlt x b _ _ hl))];exact hs
theorem P1 {V:View} (hlt:∀ r b x y,V.loc r=.at b x y→b < V.w.heap.size) (k:Obj):Later V (V.anon k) where
 size:=by simp [View.anon]
 heap b hb _:=B6 hb
 own _ _ h:=h
 kept _ _ h _:=h
 locs r _ x y _ h:=⟨r,x,y,h⟩
 loc n hn:=(Eq hlt k).loc _ hn
 shape n:=(Eq hlt k).shape _
 os:=rfl
 tape:=rfl
 output:=rfl
theorem MemRel.anon {V:View} {B:Ref→Option Blk} (h:MemRel C V B) (k:Obj):MemRel C (V.anon k) B where
 blk r b hb:=(h.blk r b hb).mono (Eq h.locLt k) rfl fun _ _ _ hl=>B6 (h.locLt _ _ _ _ hl)
 out:=h.out
 inj:=h.inj
 own:=h.own
 lt b hb:=by have:=h.lt b hb;simp [View.anon];omega
 glob g cs hg:=by
  obtain ⟨h1,hb,h2⟩:=h.glob g cs hg
  have hTo:=Eq h.locLt k
  refine ⟨h1,Nat.lt_of_lt_of_le hb hTo.size,fun j c hc=>?_⟩
  obtain ⟨v,hv,h3,h4⟩:=h2 j c hc
  exact ⟨v,by rw [Fx (hTo.heap g hb h1)];exact hv,h3,h4.mono hTo.bare⟩
theorem Went.anon {V:View} {σ:St} (hM:MemRel C V (Ao σ.o σ.l)) (k:Obj):Went C V σ (V.anon k) σ:=⟨Eq hM.locLt k,P1 hM.locLt k,hM.anon k,rfl,rfl⟩

/-- A slice literal whose row nobody writes any more. -/
def B7 (C:Ctx) (t len:Nat) (parts:Array (Nat × Operand)) (σ:St) (K:PVal→Prop):Prop :=
 match slq C.P t,Kk 0 parts.toList with
 | some (_,n,_),some xs=>xs.length=len∧len * n≤16777216∧0 < n∧G9 n (xs.map (val σ.e))∧K (.slc (xs.map (val σ.e)))
 | _,_=>False
/-- The cells of values side by side, in a row that nobody writes. -/
theorem anon_flat {V:View} {σ:St} (hM:MemRel C V (Ao σ.o σ.l)) (ty n:Nat) (hn:0 < n) (ps:List PVal) (vs:List Value) (hl:vs.length=ps.length)
  (hs:∀ p∈ps,p.solid=true∧p.cells.length=n) (hr:∀ (j:Nat) (p:PVal),ps[j]? = some p→Rep V p (vs.getD j undef)) :
  Rep (V.anon (.cells (vs.flatMap fun v=>v.cells.toList).toArray ty)) (.slc ps) (.slice (some ⟨V.w.heap.size,0,none⟩) ps.length ps.length):=by
 obtain ⟨hv',hW⟩:=On hM ty n hn ps vs hl hs hr
 have hv:∀ j (hj:j < vs.length),(∀ i,i < n→(vs[j].cells.getD i undef).oneCell'=true)∧∀ (i:Nat) (c:PVal),(ps[j]'(by omega)).cells[i]? = some c→Rep V c (vs[j].cells.getD i undef):=fun j hj=>by
  have hp:=hs (ps[j]'(by omega)) (List.getElem_mem _)
  have h1:=hr j _ (List.getElem?_eq_getElem (by omega))
  have e:vs.getD j undef=vs[j]:=by simp [List.getD_eq_getElem?_getD,hj]
  rw [e] at h1
  obtain ⟨a,b,c⟩:=E6 h1 hp.1
  rw [hp.2] at b
  exact ⟨b,c⟩
 have hlen:(vs.flatMap fun v=>v.cells.toList).length=vs.length * n:=Hg hv'
 refine .slc n (fun m=>(vs.flatMap fun v=>v.cells.toList).toArray.getD m undef) (fun h=>absurd (hM.lt _ h) (Nat.lt_irrefl _)) (by simp [View.anon]) (Nat.le_refl _) (fun m hm=>?_) (fun i x hx=>(hs x (List.mem_of_getElem? hx)).2) (fun i x j c hx hc=>?_)
 ·have hlt:m < (vs.flatMap fun v=>v.cells.toList).toArray.size:=by simp only [List.size_toArray,hlen,hl];exact hm
  refine ⟨?_,?_⟩
  ·have hh:(V.anon (.cells (vs.flatMap fun v=>v.cells.toList).toArray ty)).w.heap[V.w.heap.size]? = some (.cells (vs.flatMap fun v=>v.cells.toList).toArray ty):=Dg
   unfold World.cell?
   simp only [hh,Nat.zero_add]
   rw [Array.getD_eq_getD_getElem?,Array.getElem?_eq_getElem hlt]
   rfl
  ·have e:m=m / n * n + m % n:=by rw [Nat.mul_comm];exact (Nat.div_add_mod m n).symm
   simp only [List.size_toArray,hlen] at hlt
   have hd:m / n < vs.length:=(Nat.div_lt_iff_lt_mul hn).2 hlt
   rw [e,L4 hn hv' (Nat.mod_lt _ hn),List.getElem?_eq_getElem hd]
   exact (hv _ hd).1 _ (Nat.mod_lt _ hn)
 ·have hi:i < ps.length:=(List.getElem?_eq_some_iff.1 hx).1
  have hx':ps[i]=x:=(List.getElem?_eq_some_iff.1 hx).2
  have hj:j < n:=by rw [←(hs x (List.mem_of_getElem? hx)).2];exact (List.getElem?_eq_some_iff.1 hc).1
  show Rep _ c ((vs.flatMap fun v=>v.cells.toList).toArray.getD (i * n + j) undef)
  rw [L4 hn hv' hj,List.getElem?_eq_getElem (by omega)]
  exact ((hv i (by omega)).2 j c (by rw [hx'];exact hc)).mono (Eq hM.locLt _)

theorem Mm {V:View} {σ:St} {a:Act} (hR:Rel C n V σ a) {t len:Nat} {parts:Array (Nat × Operand)} {K:PVal→Prop} (h:B7 C t len parts σ K) :
  ∃ V' q u,(Instr.buildSlice t len (parts.map fun (i,x)=>(i,a.eval x))).run C.P V.w=.ok u V'.w∧Went C V σ V' σ∧Rep V' q u∧K q:=by
 unfold B7 at h
 split at h
 ·rename_i e m _ xs hq hd
  obtain ⟨hlen,hsmall,hpos,hok,hK⟩:=h
  obtain ⟨i,z,hu,hi,hz,hsz,_⟩:=Fv hq
  have hparts:=Kb _ _ _ hd
  have hrr:∀ (j:Nat) (p:PVal),(xs.map (val σ.e))[j]? = some p→Rep V p ((xs.map a.eval).getD j undef):=fun j p hp=>by
   simp only [List.getElem?_map,Option.map_eq_some_iff] at hp
   obtain ⟨x,hx,rfl⟩:=hp
   have:(xs.map a.eval).getD j undef=a.eval x:=by simp [List.getD_eq_getElem?_getD,hx]
   rw [this];exact Bp hR x
  obtain ⟨hv,_⟩:=On hR.mem e m hpos (xs.map (val σ.e)) (xs.map a.eval) (by simp) (Hx hok) hrr
  have hrep:=anon_flat hR.mem e m hpos (xs.map (val σ.e)) (xs.map a.eval) (by simp) (Hx hok) hrr
  have hflat:(List.flatMap (fun v=>v.cells.toList) (xs.map a.eval)).length=len * m:=by rw [Hg hv,List.length_map,hlen]
  rw [List.length_map,hlen] at hrep
  refine ⟨_,_,.slice (some ⟨V.w.heap.size,0,none⟩) len len,?_,Went.anon hR.mem _,hrep,hK⟩
  have hp2:(parts.map fun (i,x)=>(i,a.eval x)).toList=((xs.map a.eval).zipIdx 0).map fun x=>(x.2,x.1):=by
   rw [Array.toList_map,hparts,List.map_map,List.zipIdx_map,List.map_map]
   rfl
  by_cases h0:len * m=0
  ·have hl0:len=0:=by rcases Nat.mul_eq_zero.1 h0 with h | h;exact h;omega
   have hx0:xs=[]:=List.length_eq_zero_iff.1 (by omega)
   subst hx0
   have hp0:parts=#[]:=by
    apply Array.toList_inj.1
    rw [hparts];rfl
   subst hp0
   simp [Instr.buildSlice,run_underlying hu,sizeOf,typeInfo,hi,hl0,Xi,newRow,View.anon]
   congr 2
   apply Array.ext_getElem?
   intro j
   simp
  ·rw [Go.run_buildSlice V.w t e len _ (List.flatMap (fun v=>v.cells.toList) (xs.map a.eval)).toArray i z hu hi hz (by rw [hsz];omega) (by rw [hsz];exact h0) ?_]
   ·rfl
   ·rw [hsz,hp2]
    exact Great.fill_whole hpos _ _ hv (by simp [hlen])
 ·exact h.elim

/-- A variable of its own that nobody writes any more. -/
def Vy (e:TypeId) (p:PVal) (K:PVal→Prop):Prop:=p.solid=true∧K (.eptr p 0)
theorem Vx {V:View} {σ:St} (hM:MemRel C V (Ao σ.o σ.l)) {e:TypeId} {p:PVal} {v:Value} (hp:Rep V p v) {K:PVal→Prop} (h:Vy e p K) :
  ∃ V' q u,(Instr.box e v).run C.P V.w=.ok u V'.w∧Went C V σ V' σ∧Rep V' q u∧K q:=by
 obtain ⟨hs,hK⟩:=h
 obtain ⟨c1,c2,c3⟩:=E6 hp hs
 refine ⟨V.anon (.cells v.cells e),_,.pointer (some ⟨V.w.heap.size,0,none⟩),?_,Went.anon hM _,?_,hK⟩
 ·simp [Instr.box,newVar,newRow,View.anon]
 ·refine .eptr (o:=0) (fun m=>v.cells.getD m undef) (fun h=>absurd (hM.lt _ h) (Nat.lt_irrefl _)) (by simp [View.anon]) (fun m hm=>⟨?_,c2 m hm⟩) (fun j c hc=>(c3 j c hc).mono (Eq hM.locLt _))
  have hh:(V.anon (.cells v.cells e)).w.heap[V.w.heap.size]? = some (.cells v.cells e):=Dg
  have hlt:m < v.cells.size:=by omega
  unfold World.cell?
  simp only [hh,Nat.zero_add]
  rw [Array.getD_eq_getD_getElem?,Array.getElem?_eq_getElem hlt]
  rfl
end Go.V
namespace Go.V
open Go

variable {C:Ctx} {n:Nat}

theorem Lv {e e':Env} {x:Operand} (h:∀ t,x=.tmp t→gt e t=gt e' t):val e' x=val e x:=by
 cases x <;> first | rfl | exact (h _ rfl).symm
theorem Ju {e e':Env} {xs:List Operand} (h:∀ t,.tmp t∈xs→gt e t=gt e' t):xs.map (val e')=xs.map (val e) :=
 List.map_congr_left fun _ hx=>Lv fun _ ht=>h _ (ht ▸ hx)

/-- What follows, asx seen from another environment. -/
def kE (K:PVal→St→Prop) (e e':Env) (d:List PDef):PVal→St→Prop:=fun q τ=>τ.e=e'∧τ.d=d∧K q ⟨e,τ.o,τ.l,d⟩

theorem Na {e e':Env} (place:Nat→Option (Nat × Nat)):∀ (ps:List (Nat × Operand)) (zs:List PVal) (K:List PVal→Prop),(∀ t,.tmp t∈ps.map (·.2)→gt e t=gt e' t)→Eh place e' zs ps K=Eh place e zs ps K
 | [],_,_,_=>rfl
 | (i,x)::r,zs,K,h=>by
   have hx:val e' x=val e x:=Lv fun t ht=>h t (by simp [ht])
   have ih:=fun zs=>Na place r zs K fun t ht=>h t (by simp only [List.map_cons,List.mem_cons];exact .inr ht)
   simp only [Eh,hx,ih]

theorem Ua {e e':Env} {t:TypeId} {ps:Array (Nat × Operand)} (h:∀ t,.tmp t∈ps.toList.map (·.2)→gt e t=gt e' t) (K:PVal→Prop):Fp C t ps e' K=Fp C t ps e K:=by
 unfold Fp
 simp only [Na (e:=e) (e':=e') _ _ _ _ h]

theorem R0 {e e':Env} {i:Nat} {ps:List (Nat × Operand)} {xs:List Operand} (hd:Kk i ps=some xs) (h:∀ t,.tmp t∈ps.map (·.2)→gt e t=gt e' t):xs.map (val e')=xs.map (val e):=by
 refine Ju fun t ht=>h t ?_
 rw [Kb _ _ _ hd,List.map_map]
 obtain ⟨k,hk,hx⟩:=List.getElem_of_mem ht
 exact List.mem_map.2 ⟨(xs[k],i + k),List.mem_iff_getElem.2 ⟨k,by simpa using hk,by simp⟩,hx⟩

variable {e e':Env} {o l:List Blk} {d:List PDef} {K KP:PVal→St→Prop}

theorem Aas {t:TypeId} {p v:PVal} (h:Hi C t p v ⟨e,o,l,d⟩ fun τ=>K .any τ):Hi C t p v ⟨e',o,l,d⟩ fun τ=>kE K e e' d .any τ:=by
 unfold Hi at h ⊢
 split at h
 ·exact h
 ·obtain ⟨h1,h2,h⟩:=h
  refine ⟨h1,h2,?_⟩
  split at h
  ·rename_i r i off
   dsimp only at h ⊢
   split at h
   ·rename_i elems size ty hB
    split at h
    ·rename_i x hx
     have hk:(fun y=>kE K e e' d .any (A1 ⟨e',o,l,d⟩ r (.row (elems.set i y) size ty)))=fun y=>K .any (A1 ⟨e,o,l,d⟩ r (.row (elems.set i y) size ty)):=by
      funext y
      cases r <;> simp [kE,A1]
     rw [hk];exact h
    ·exact h.elim
   ·exact h.elim
  ·exact h.elim

theorem Zs {t:TypeId} {p:PVal} (h:Ub t p ⟨e,o,l,d⟩ K):Ub t p ⟨e',o,l,d⟩ (kE K e e' d):=⟨h.1,rfl,rfl,h.2⟩
theorem Aa4 {t:TypeId} (h:Jb C t ⟨e,o,l,d⟩ K):Jb C t ⟨e',o,l,d⟩ (kE K e e' d):=by
 unfold Jb at h ⊢
 split at h
 ·exact Zs h
 ·exact h

theorem Qx {t len:Nat} {ps:Array (Nat × Operand)} (hv:∀ t,.tmp t∈ps.toList.map (·.2)→gt e t=gt e' t) (h:C7 C t len ps ⟨e,o,l,d⟩ K):C7 C t len ps ⟨e',o,l,d⟩ (kE K e e' d):=by
 unfold C7 at h ⊢
 split at h
 ·rename_i e0 m b xs hq hd
  have:=R0 hd hv
  simp only [this]
  exact ⟨h.1,h.2.1,h.2.2.1,h.2.2.2.1,rfl,rfl,h.2.2.2.2⟩
 ·exact h.elim
theorem Mn {t len:Nat} {ps:Array (Nat × Operand)} (hv:∀ t,.tmp t∈ps.toList.map (·.2)→gt e t=gt e' t) (K:PVal→Prop):B7 C t len ps ⟨e',o,l,d⟩ K=B7 C t len ps ⟨e,o,l,d⟩ K:=by
 unfold B7
 split
 ·rename_i e0 m b xs hq hd
  simp only [R0 hd hv]
 ·rfl

theorem CallW_kE {g:FuncId} {asx:List PVal} (h:CallW C g asx ⟨e,o,l,d⟩ K KP):CallW C g asx ⟨e',o,l,d⟩ (kE K e e' d) (kE KP e e' d):=by
 refine ⟨h.1,fun V vs hM hL=>(h.2 V vs hM hL).mono fun x w' ⟨V',σ',r,h1,h2,h3,h4⟩=>⟨V',⟨e',σ'.o,σ'.l,d⟩,r,h1,⟨h2.to,h2.later,h2.mem,rfl,rfl⟩,h3,?_⟩⟩
 have e1:σ'=⟨e,σ'.o,σ'.l,d⟩:=by
  have:=h2.e;have:=h2.d
  cases σ';simp_all
 cases r with
 | ret p=>dsimp only at h4 ⊢;rw [e1] at h4;exact ⟨rfl,rfl,h4⟩
 | pan p=>dsimp only at h4 ⊢;rw [e1] at h4;exact ⟨rfl,rfl,h4⟩

theorem Of {K K':PVal→Prop} (hK:∀ q,K q→K' q) {t:TypeId} {p:PVal} (h:Qs C t p K):Qs C t p K':=by
 revert h
 unfold Qs
 repeat' (first | exact fun h=>⟨h.1,hK _ h.2⟩ | exact hK _ | exact id | split)
theorem X4 {t tx:TypeId} {p q:PVal} (h:Ga C t tx p q ⟨e,o,l,d⟩ K):Ga C t tx p q ⟨e',o,l,d⟩ (kE K e e' d):=by
 unfold Ga at h ⊢
 have hs:Nh C tx q ⟨e',o,l,d⟩=Nh C tx q ⟨e,o,l,d⟩:=rfl
 rw [hs]
 split at h
 ·split at h
  ·exact ⟨rfl,rfl,h⟩
  ·dsimp only at h ⊢
   split at h
   ·exact ⟨rfl,rfl,h⟩
   ·exact h
  ·exact h
 ·obtain ⟨h1,h2,h3,h⟩:=h
  refine ⟨h1,h2,h3,?_⟩
  split at h
  ·exact ⟨h.1,h.2.1,rfl,rfl,h.2.2⟩
  ·rename_i r off len
   dsimp only at h ⊢
   split at h
   ·obtain ⟨h4,h5,h6,h7,h8,h9⟩:=h
    refine ⟨h4,h5,h6,h7,h8,?_⟩
    cases r <;> exact ⟨rfl,rfl,h9⟩
   ·exact h
  ·exact h
 ·exact h
theorem Uc {σ:St} {K K':PVal→St→Prop} (hK:∀ q τ,K q τ→K' q τ) {t tx:TypeId} {p q:PVal} (h:Ga C t tx p q σ K):Ga C t tx p q σ K':=by
 unfold Ga at h ⊢
 split at h
 ·split at h
  ·exact hK _ _ h
  ·split at h
   ·exact hK _ _ h
   ·exact h
  ·exact h
 ·obtain ⟨h1,h2,h3,h⟩:=h
  refine ⟨h1,h2,h3,?_⟩
  split at h
  ·exact ⟨h.1,h.2.1,hK _ _ h.2.2⟩
  ·split at h
   ·obtain ⟨h4,h5,h6,h7,h8,h9⟩:=h
    exact ⟨h4,h5,h6,h7,h8,hK _ _ h9⟩
   ·exact h
  ·exact h
 ·exact h
theorem Sd {b:Builtin} {ts:Array TypeId} {asx:List PVal} {σ:St} {K K' KP KP':PVal→St→Prop} (hK:∀ q τ,K q τ→K' q τ) (hP:∀ q τ,KP q τ→KP' q τ)
  (h:Cp C b ts asx σ K KP):Cp C b ts asx σ K' KP':=by
 unfold Cp at h ⊢
 split at h
 ·split at h
  ·exact ⟨h.1,Of (fun q=>hK q σ) h.2⟩
  ·exact h.elim
 ·split at h
  ·exact hK _ _ h
  ·exact h.elim
 ·split at h
  ·exact hK _ _ h
  ·exact h.elim
 ·split at h
  ·exact hP _ _ h
  ·exact h.elim
 ·split at h
  ·exact Uc hK h
  ·exact h.elim
 ·exact h
theorem Vw {b:Builtin} {ts:Array TypeId} {asx:List PVal} (h:Cp C b ts asx ⟨e,o,l,d⟩ K KP):Cp C b ts asx ⟨e',o,l,d⟩ (kE K e e' d) (kE KP e e' d):=by
 unfold Cp at h ⊢
 split at h
 ·split at h
  ·exact ⟨h.1,Of (fun q hq=>⟨rfl,rfl,hq⟩) h.2⟩
  ·exact h.elim
 ·split at h
  ·exact ⟨rfl,rfl,h⟩
  ·exact h.elim
 ·split at h
  ·exact ⟨rfl,rfl,h⟩
  ·exact h.elim
 ·split at h
  ·exact ⟨rfl,rfl,h⟩
  ·exact h.elim
 ·split at h
  ·exact X4 h
  ·exact h.elim
 ·exact h

theorem Qw {s t:TypeId} {p:PVal} {σ σ':St} {K K':PVal→St→Prop} (hK:∀ q,K q σ→K' q σ') (h:Kr C s t p σ K):Kr C s t p σ' K':=by
 unfold Kr at h ⊢
 split at h
 ·split at h
  ·exact hK _ h
  ·exact h.elim
 ·exact ⟨h.1,h.2.1,hK _ h.2.2⟩
 ·refine ⟨h.1,h.2.1,?_⟩
  have h:=h.2.2
  split at h
  ·exact hK _ h
  ·exact h
 ·exact h

theorem Sb {t:TypeId} {p q:PVal} (h:Dz C t p q ⟨e,o,l,d⟩ K):Dz C t p q ⟨e',o,l,d⟩ (kE K e e' d):=by
 unfold Dz at h ⊢
 split at h
 ·split at h
  ·split at h
   ·exact ⟨h.1,h.2.1,h.2.2.1,h.2.2.2.1,h.2.2.2.2.1,h.2.2.2.2.2.1,rfl,rfl,h.2.2.2.2.2.2⟩
   ·exact h
  ·exact h
 ·exact h
theorem Zq {op:Op} (ha:∀ t,.tmp t∈op.operands.toList→gt e t=gt e' t) (h:wOp C op ⟨e,o,l,d⟩ K KP):wOp C op ⟨e',o,l,d⟩ (kE K e e' d) (kE KP e e' d):=by
 have hk:∀ q,K q ⟨e,o,l,d⟩→kE K e e' d q ⟨e',o,l,d⟩:=fun q h=>⟨rfl,rfl,h⟩
 have hp:∀ q,KP q ⟨e,o,l,d⟩→kE KP e e' d q ⟨e',o,l,d⟩:=fun q h=>⟨rfl,rfl,h⟩
 have hK:(fun q=>kE K e e' d q ⟨e',o,l,d⟩)=fun q=>K q ⟨e,o,l,d⟩:=by funext q;simp [kE]
 have hx:∀ x,x∈op.operands.toList→val e' x=val e x:=fun x hx=>Lv fun t ht=>ha t (ht ▸ hx)
 cases op <;> simp only [wOp] at h <;> simp only [wOp]
 case move x=>rw [hx x (by simp [Op.operands])];exact hk _ h
 case assign x=>rw [hx x (by simp [Op.operands])];exact hk _ h
 case pick c a b =>
  rw [hx c (by simp [Op.operands]),hx a (by simp [Op.operands]),hx b (by simp [Op.operands])]
  split at h
  ·exact ⟨fun t=>hk _ (h.1 t),fun t=>hk _ (h.2 t)⟩
  ·exact h.elim
 case alloc t=>exact Aa4 h
 case box t x=>rw [hx x (by simp [Op.operands])];exact Zs h
 case build t ps=>rw [hK,Ua (fun t ht=>ha t (by simpa [Op.operands] using ht))];exact h
 case buildSlice t m ps=>exact Qx (fun t ht=>ha t (by simpa [Op.operands] using ht)) h
 case load t x=>rw [hK,hx x (by simp [Op.operands])];exact h
 case makeSlice t x y=>rw [hx x (by simp [Op.operands]),hx y (by simp [Op.operands])];exact Sb h
 case store t x y=>rw [hx x (by simp [Op.operands]),hx y (by simp [Op.operands])];exact Aas h
 case nilCheck x=>rw [hK,hx x (by simp [Op.operands])];exact h
 case binOp bo t x y ty=>rw [hK,hx x (by simp [Op.operands]),hx y (by simp [Op.operands])];exact h
 case unOp bo t x=>rw [hK,hx x (by simp [Op.operands])];exact h
 case convert s t x=>rw [hx x (by simp [Op.operands])];exact Qw hk h
 case makeInterface t x=>rw [hK,hx x (by simp [Op.operands])];exact h
 case makeFunc f a b =>
  rw [Ju (e:=e) (e':=e') (xs:=a.toList) (fun t ht=>ha t (by simp [Op.operands];exact .inl (by simpa using ht))),
   Ju (e:=e) (e':=e') (xs:=b.toList) (fun t ht=>ha t (by simp [Op.operands];exact .inr (by simpa using ht)))]
  exact hk _ h
 case slice t x lo hi mx =>
  have ho:∀ y:Option Operand,(∀ z,y=some z→z∈(Op.slice t x lo hi mx).operands.toList)→y.map (val e')=y.map (val e):=fun y hy=>by
   cases y with
   | none=>rfl
   | some z=>simp only [Option.map_some];rw [hx z (hy z rfl)]
  rw [hK,hx x (by simp [Op.operands]),ho lo (fun z hz=>by subst hz;simp [Op.operands]),ho hi (fun z hz=>by subst hz;simp [Op.operands])]
  exact h
 case fieldAddr s x f=>rw [hK,hx x (by simp [Op.operands])];exact h
 case field s x f=>rw [hK,hx x (by simp [Op.operands])];exact h
 case indexAddr t x i=>rw [hK,hx x (by simp [Op.operands]),hx i (by simp [Op.operands])];exact h
 case index t x i=>rw [hK,hx x (by simp [Op.operands]),hx i (by simp [Op.operands])];exact h
 case lookup t x i ok=>rw [hK,hx x (by simp [Op.operands]),hx i (by simp [Op.operands])];exact h
 case typeAssert x xt t ok=>rw [hK,hx x (by simp [Op.operands])];exact h
 case extract x i=>rw [hK,hx x (by simp [Op.operands])];exact h
 case call c =>
  unfold Sx at h ⊢
  have hargs:c.args.toList.map (val e')=c.args.toList.map (val e):=Ju fun t ht=>ha t (by
   simp only [Op.operands,Call.operands]
   first | (simp;exact .inr (by simpa using ht)) | (simp;exact .inl (by simpa using ht)) | (split <;> simp_all))
  simp only [hargs]
  dsimp only at h
  split at h
  ·exact Vw h
  ·rename_i f hc
   have:val e' f=val e f:=hx f (by simp [Op.operands,Call.operands,hc])
   simp only [this]
   split at h
   ·exact CallW_kE h
   ·exact h.elim
  ·exact h.elim
 case panic x =>
  rw [hx x (by simp [Op.operands])]
  split at h
  ·exact hp _ h
  ·exact h.elim
end Go.V
namespace Go.V
open Go

variable {C:Ctx} {σ:St} {K K':PVal→Prop}

theorem Li (hK:∀ q,K q→K' q) {ag:Bool} {m:Nat} {cs:List PVal} {off:Nat} (h:C6 ag m cs off K):C6 ag m cs off K':=by
 revert h
 unfold C6
 split
 ·exact fun h=>⟨h.1,hK _ h.2⟩
 ·split
  ·exact hK _
  ·exact id
theorem Qr (hK:∀ q,K q→K' q) {t:TypeId} {p:PVal} (h:Ia C t p σ K):Ia C t p σ K':=by
 unfold Ia at h ⊢
 repeat' (first | exact Li hK h | exact h.elim | split at h)
theorem Hb {K K':List PVal→Prop} (hK:∀ q,K q→K' q) {place:Nat→Option (Nat × Nat)} {e:Env}:∀ {ps:List (Nat × Operand)} {zs:List PVal},Eh place e zs ps K→Eh place e zs ps K'
 | [],zs,h=>hK _ h
 | (i,x)::r,zs,h=>by
   unfold Eh at h ⊢
   split at h
   ·exact ⟨h.1,h.2.1,h.2.2.1,Hb hK h.2.2.2⟩
   ·exact h
theorem O6 (hK:∀ q,K q→K' q) {t:TypeId} {ps:Array (Nat × Operand)} {e:Env} (h:Fp C t ps e K):Fp C t ps e K':=by
 unfold Fp at h ⊢
 split at h
 ·exact Hb (fun _=>hK _) h
 ·split at h
  ·exact Hb (fun _=>hK _) h
  ·exact h
theorem Kq (hK:∀ q,K q→K' q) {p:PVal} (h:Da p σ K):Da p σ K':=by
 unfold Da at h ⊢
 repeat' (first | exact hK _ h | exact h.elim | split at h)
theorem Aa2 (hK:∀ q,K q→K' q) {op:BinOp} {k k':IntKind} {a b:Int} (h:Ht op k a k' b K):Ht op k a k' b K':=by
 cases op <;> first | exact ⟨h.1,hK _ h.2⟩ | exact ⟨h.1,h.2.1,hK _ h.2.2⟩
theorem Aar (hK:∀ q,K q→K' q) {op:BinOp} {a b:List UInt8} (h:Qm op a b K):Qm op a b K':=by
 cases op <;> first | exact hK _ h | exact h.elim | exact ⟨h.1,hK _ h.2⟩
theorem Hz (hK:∀ q,K q→K' q) {op:BinOp} {b:Bool} (h:Hu op b K):Hu op b K':=by
 cases op <;> first | exact hK _ h | exact h.elim
theorem Sy (hK:∀ q,K q→K' q) {op:BinOp} {t:TypeId} {x y:Operand} {p q:PVal} (h:Oi C op t x y p q σ K):Oi C op t x y p q σ K':=by
 unfold Oi at h ⊢
 split at h
 ·exact Aa2 hK h
 ·exact Aar hK h
 ·exact ⟨h.1,Hz hK h.2⟩
 ·split at h
  ·exact ⟨h.1,Hz hK h.2⟩
  ·exact h
 ·exact ⟨h.1,h.2.1,Hz hK h.2.2⟩
 ·exact ⟨h.1,Hz hK h.2⟩
 ·exact ⟨h.1,Hz hK h.2⟩
 ·exact ⟨h.1,h.2.1,Hz hK h.2.2⟩
 ·exact h
theorem Vo (hK:∀ q,K q→K' q) {op:UnOp} {p:PVal} (h:wUn op p K):wUn op p K':=by
 unfold wUn at h ⊢
 repeat' (first | exact hK _ h | exact h.elim | split at h)
theorem O2 (hK:∀ q,K q→K' q) {t:TypeId} {p:PVal} {lo hi:Option PVal} (h:Hj C t p lo hi σ K):Hj C t p lo hi σ K':=by
 unfold Hj at h ⊢
 split at h
 ·refine ⟨h.1,?_⟩
  replace h:=h.2
  split at h
  ·exact ⟨h.1,h.2.1,h.2.2.1,hK _ h.2.2.2⟩
  ·exact h
 ·split at h
  ·exact ⟨h.1,h.2.1,h.2.2.1,h.2.2.2.1,hK _ h.2.2.2.2⟩
  ·exact h
 ·split at h
  ·exact ⟨h.1,h.2.1,h.2.2.1,h.2.2.2.1,hK _ h.2.2.2.2⟩
  ·exact h
 ·split at h
  ·exact ⟨h.1,h.2.1,hK _ h.2.2⟩
  ·exact h
 ·exact h
theorem Ke (hK:∀ q,K q→K' q) {s:TypeId} {p:PVal} {f:Nat} (h:Cw C s p f σ K):Cw C s p f σ K':=by
 unfold Cw at h ⊢
 split at h
 ·refine ⟨h.1,?_⟩
  replace h:=h.2
  split at h
  ·split at h
   ·exact hK _ h
   ·exact h
  ·exact hK _ h
  ·exact hK _ h
  ·exact h
 ·exact h
theorem O5 (hK:∀ q,K q→K' q) {t:TypeId} {p:PVal} {f:Nat} (h:G1 C t p f K):G1 C t p f K':=by
 unfold G1 at h ⊢
 repeat' (first | exact Li hK h | exact h.elim | split at h)
theorem Kd (hK:∀ q,K q→K' q) {t:TypeId} {p ix:PVal} (h:Cv C t p ix σ K):Cv C t p ix σ K':=by
 revert h
 unfold Cv
 repeat' (first | exact fun h=>⟨h.1,h.2.1,h.2.2.1,hK _ h.2.2.2⟩ | exact fun h=>⟨h.1,h.2.1,hK _ h.2.2⟩ | exact id | split)
theorem O4 (hK:∀ q,K q→K' q) {t:TypeId} {p ix:PVal} (h:G0 C t p ix K):G0 C t p ix K':=by
 unfold G0 at h ⊢
 split at h
 ·split at h
  ·exact ⟨h.1,h.2.1,h.2.2.1,hK _ h.2.2.2⟩
  ·split at h
   ·split at h
    ·exact ⟨h.1,h.2.1,Li hK h.2.2⟩
    ·exact h
   ·exact h
  ·exact h
 ·exact h
theorem Nc (hK:∀ q,K q→K' q) {t:TypeId} {p ix:PVal} {ok:Bool} (h:Fg C t p ix ok K):Fg C t p ix ok K':=by
 unfold Fg at h ⊢
 repeat' (first | exact ⟨h.1,hK _ h.2⟩ | exact h.elim | split at h)
theorem Ng (hK:∀ q,K q→K' q) {t:TypeId} {p:PVal} {ok:Bool} (h:Ei C t p ok K):Ei C t p ok K':=by
 have hz:∀ {K K':PVal→Prop} (hK:∀ q,K q→K' q),(match tz C.P t with
   | some z=>K (.tuple [z,.bool false])
   | none=>False)→(match tz C.P t with
   | some z=>K' (.tuple [z,.bool false])
   | none=>False):=fun hK h=>by
  split at h
  ·exact hK _ h
  ·exact h
 unfold Ei at h ⊢
 split at h
 ·exact h
 ·split at h
  ·rename_i d v
   cases hb:Nat.beq d t with
   | true=>rw [hb] at h;exact hK _ h
   | false=>rw [hb] at h;exact ⟨h.1,hz hK h.2⟩
  ·exact ⟨h.1,hz hK h.2⟩
  ·exact h
 ·exact h
theorem Ma (hK:∀ q,K q→K' q) {p:PVal} {i:Nat} (h:D9 p i K):D9 p i K':=by
 unfold D9 at h ⊢
 repeat' (first | exact hK _ h | exact h.elim | split at h)
theorem putc_mono (hK:∀ q,K q→K' q) {x:PVal} {off:Nat} {v:PVal} (h:Rf x off v K):Rf x off v K':=by
 unfold Rf at h ⊢
 split at h
 ·exact ⟨h.1,hK _ h.2⟩
 ·exact h
 ·exact ⟨h.1,hK _ h.2⟩
theorem Vp {K K':St→Prop} (hK:∀ q,K q→K' q) {t:TypeId} {p v:PVal} (h:Hi C t p v σ K):Hi C t p v σ K':=by
 unfold Hi at h ⊢
 split at h
 ·exact h
 ·refine ⟨h.1,h.2.1,?_⟩
  replace h:=h.2.2
  split at h
  ·split at h
   ·split at h
    ·exact putc_mono (fun _=>hK _) h
    ·exact h
   ·exact h
  ·exact h
theorem Nf (hK:∀ q,K q→K' q) {t len:Nat} {ps:Array (Nat × Operand)} (h:B7 C t len ps σ K):B7 C t len ps σ K':=by
 unfold B7 at h ⊢
 split at h
 ·exact ⟨h.1,h.2.1,h.2.2.1,h.2.2.2.1,hK _ h.2.2.2.2⟩
 ·exact h
theorem Zn {K K' KP KP':PVal→St→Prop} (hK:∀ q τ,K q τ→K' q τ) (hP:∀ q τ,KP q τ→KP' q τ) {g:FuncId} {asx:List PVal} (h:CallW C g asx σ K KP):CallW C g asx σ K' KP' :=
 ⟨h.1,fun V vs hM hL=>(h.2 V vs hM hL).mono fun x w' ⟨V',σ',r,h1,h2,h3,h4⟩=>⟨V',σ',r,h1,h2,h3,by
  cases r with
  | ret p=>exact hK _ _ h4
  | pan p=>exact hP _ _ h4⟩⟩

theorem Vr {K K' KP KP':PVal→St→Prop} (hK:∀ q τ,K q τ→K' q τ) (hP:∀ q τ,KP q τ→KP' q τ) {op:Op} (h:wOp C op σ K KP):wOp C op σ K' KP':=by
 have hk:∀ q,K q σ→K' q σ:=fun q=>hK q σ
 cases op <;> simp only [wOp] at h <;> simp only [wOp]
 case move x=>exact hk _ h
 case assign x=>exact hk _ h
 case pick c a b =>
  split at h
  ·exact ⟨fun t=>hk _ (h.1 t),fun t=>hk _ (h.2 t)⟩
  ·exact h.elim
 case alloc t =>
  unfold Jb at h ⊢
  split at h
  ·exact ⟨h.1,hK _ _ h.2⟩
  ·exact h
 case box t x=>exact ⟨h.1,hK _ _ h.2⟩
 case build t ps=>exact O6 hk h
 case buildSlice t m ps =>
  unfold C7 at h ⊢
  split at h
  ·exact ⟨h.1,h.2.1,h.2.2.1,h.2.2.2.1,hK _ _ h.2.2.2.2⟩
  ·exact h
 case load t x=>exact Qr hk h
 case makeSlice t x y =>
  unfold Dz at h ⊢
  split at h
  ·split at h
   ·split at h
    ·exact ⟨h.1,h.2.1,h.2.2.1,h.2.2.2.1,h.2.2.2.2.1,h.2.2.2.2.2.1,hK _ _ h.2.2.2.2.2.2⟩
    ·exact h
   ·exact h
  ·exact h
 case store t x y=>exact Vp (fun τ=>hK _ τ) h
 case nilCheck x=>exact Kq hk h
 case binOp bo t x y ty=>exact Sy hk h
 case unOp bo t x=>exact Vo hk h
 case convert s t x=>exact Qw hk h
 case makeInterface t x=>exact ⟨h.1,hk _ h.2⟩
 case makeFunc f a b=>exact hk _ h
 case slice t x lo hi mx=>exact ⟨h.1,O2 hk h.2⟩
 case fieldAddr s x f=>exact Ke hk h
 case field s x f=>exact O5 hk h
 case indexAddr t x i=>exact Kd hk h
 case index t x i=>exact O4 hk h
 case lookup t x i ok=>exact Nc hk h
 case typeAssert x xt t ok=>exact Ng hk h
 case extract x i=>exact Ma hk h
 case call c =>
  unfold Sx at h ⊢
  split at h
  ·exact Sd hK hP h
  ·split at h
   ·exact Zn hK hP h
   ·exact h.elim
  ·exact h.elim
 case panic x =>
  split at h
  ·exact hP _ _ h
  ·exact h.elim

end Go.V
namespace Go.V
open Go

variable {C:Ctx} {σ:St} {K:PVal→Prop}

theorem Mw {ag:Bool} {m:Nat} {cs:List PVal} {off:Nat} (h:C6 ag m cs off K):∃ p,C6 ag m cs off (·=p)∧K p:=by
 revert h
 unfold C6
 split
 ·exact fun h=>⟨_,⟨h.1,rfl⟩,h.2⟩
 ·split
  ·exact fun h=>⟨_,rfl,h⟩
  ·exact fun h=>h.elim
theorem Aa1 {t:TypeId} {p:PVal} (h:Ia C t p σ K):∃ q,Ia C t p σ (·=q)∧K q:=by
 revert h
 unfold Ia
 repeat' (first | exact Mw | exact fun h=>h.elim | split)
theorem Ml {K:List PVal→Prop} {place:Nat→Option (Nat × Nat)} {e:Env}:∀ {ps:List (Nat × Operand)} {zs:List PVal},Eh place e zs ps K→∃ q,Eh place e zs ps (·=q)∧K q
 | [],zs,h=>⟨_,rfl,h⟩
 | (i,x)::r,zs,h=>by
   revert h
   unfold Eh
   split
   ·intro h
    obtain ⟨q,h1,h2⟩:=Ml h.2.2.2
    exact ⟨q,⟨h.1,h.2.1,h.2.2.1,h1⟩,h2⟩
   ·exact fun h=>h.elim
theorem X2 {t:TypeId} {ps:Array (Nat × Operand)} {e:Env} (h:Fp C t ps e K):∃ q,Fp C t ps e (·=q)∧K q:=by
 revert h
 unfold Fp
 split
 ·intro h
  obtain ⟨q,h1,h2⟩:=Ml h
  exact ⟨_,Hb (fun x hx=>by rw [hx]) h1,h2⟩
 ·split
  ·intro h
   obtain ⟨q,h1,h2⟩:=Ml h
   exact ⟨_,Hb (fun x hx=>by rw [hx]) h1,h2⟩
  ·exact fun h=>h.elim
theorem Sa {p:PVal} (h:Da p σ K):∃ q,Da p σ (·=q)∧K q:=by
 revert h
 unfold Da
 repeat' (first | exact fun h=>⟨_,rfl,h⟩ | exact fun h=>h.elim | split)
theorem wInt_det {op:BinOp} {k k':IntKind} {a b:Int} (h:Ht op k a k' b K):∃ q,Ht op k a k' b (·=q)∧K q:=by
 cases op <;> first | exact ⟨_,⟨h.1,rfl⟩,h.2⟩ | exact ⟨_,⟨h.1,h.2.1,rfl⟩,h.2.2⟩
theorem wStr_det {op:BinOp} {a b:List UInt8} (h:Qm op a b K):∃ q,Qm op a b (·=q)∧K q:=by
 cases op <;> first | exact ⟨_,rfl,h⟩ | exact h.elim | exact ⟨_,⟨h.1,rfl⟩,h.2⟩
theorem Jj {op:BinOp} {b:Bool} (h:Hu op b K):∃ q,Hu op b (·=q)∧K q:=by
 cases op <;> first | exact ⟨_,rfl,h⟩ | exact h.elim
theorem wBin_det {op:BinOp} {t:TypeId} {x y:Operand} {p q:PVal} (h:Oi C op t x y p q σ K):∃ r,Oi C op t x y p q σ (·=r)∧K r:=by
 revert h
 unfold Oi
 split
 ·exact wInt_det
 ·exact wStr_det
 ·intro h;obtain ⟨r,h1,h2⟩:=Jj h.2;exact ⟨r,⟨h.1,h1⟩,h2⟩
 ·split
  ·intro h;obtain ⟨r,h1,h2⟩:=Jj h.2;exact ⟨r,⟨h.1,h1⟩,h2⟩
  ·exact fun h=>h.elim
 ·intro h;obtain ⟨r,h1,h2⟩:=Jj h.2.2;exact ⟨r,⟨h.1,h.2.1,h1⟩,h2⟩
 ·intro h;obtain ⟨r,h1,h2⟩:=Jj h.2;exact ⟨r,⟨h.1,h1⟩,h2⟩
 ·intro h;obtain ⟨r,h1,h2⟩:=Jj h.2;exact ⟨r,⟨h.1,h1⟩,h2⟩
 ·intro h;obtain ⟨r,h1,h2⟩:=Jj h.2.2;exact ⟨r,⟨h.1,h.2.1,h1⟩,h2⟩
 ·exact fun h=>h.elim
theorem wUn_det {op:UnOp} {p:PVal} (h:wUn op p K):∃ q,wUn op p (·=q)∧K q:=by
 revert h
 unfold wUn
 repeat' (first | exact fun h=>⟨_,rfl,h⟩ | exact fun h=>h.elim | split)
theorem Xw {t:TypeId} {p:PVal} {lo hi:Option PVal} (h:Hj C t p lo hi σ K):∃ q,Hj C t p lo hi σ (·=q)∧K q:=by
 revert h
 unfold Hj
 split
 ·intro h
  have h1:=h.1
  replace h:=h.2
  revert h
  split
  ·exact fun h=>⟨_,⟨h1,h.1,h.2.1,h.2.2.1,rfl⟩,h.2.2.2⟩
  ·exact fun h=>h.elim
 ·split
  ·exact fun h=>⟨_,⟨h.1,h.2.1,h.2.2.1,h.2.2.2.1,rfl⟩,h.2.2.2.2⟩
  ·exact fun h=>h.elim
 ·split
  ·exact fun h=>⟨_,⟨h.1,h.2.1,h.2.2.1,h.2.2.2.1,rfl⟩,h.2.2.2.2⟩
  ·exact fun h=>h.elim
 ·split
  ·exact fun h=>⟨_,⟨h.1,h.2.1,rfl⟩,h.2.2⟩
  ·exact fun h=>h.elim
 ·exact fun h=>h.elim
theorem Qu {s:TypeId} {p:PVal} {f:Nat} (h:Cw C s p f σ K):∃ q,Cw C s p f σ (·=q)∧K q:=by
 revert h
 unfold Cw
 split
 ·intro h
  have h1:=h.1
  replace h:=h.2
  revert h
  split
  ·split
   ·exact fun h=>⟨_,⟨h1,rfl⟩,h⟩
   ·exact fun h=>h.elim
  ·exact fun h=>⟨_,⟨h1,rfl⟩,h⟩
  ·exact fun h=>⟨_,⟨h1,rfl⟩,h⟩
  ·exact fun h=>h.elim
 ·exact fun h=>h.elim
theorem X1 {t:TypeId} {p:PVal} {f:Nat} (h:G1 C t p f K):∃ q,G1 C t p f (·=q)∧K q:=by
 revert h
 unfold G1
 repeat' (first | exact Mw | exact fun h=>h.elim | split)
theorem Qt {t:TypeId} {p ix:PVal} (h:Cv C t p ix σ K):∃ q,Cv C t p ix σ (·=q)∧K q:=by
 revert h
 unfold Cv
 repeat' (first | exact fun h=>⟨_,⟨h.1,h.2.1,h.2.2.1,rfl⟩,h.2.2.2⟩ | exact fun h=>⟨_,⟨h.1,h.2.1,rfl⟩,h.2.2⟩ | exact fun h=>h.elim | split)
theorem X0 {t:TypeId} {p ix:PVal} (h:G0 C t p ix K):∃ q,G0 C t p ix (·=q)∧K q:=by
 revert h
 unfold G0
 split
 ·split
  ·exact fun h=>⟨_,⟨h.1,h.2.1,h.2.2.1,rfl⟩,h.2.2.2⟩
  ·split
   ·split
    ·intro h;obtain ⟨r,h1,h2⟩:=Mw h.2.2;exact ⟨r,⟨h.1,h.2.1,h1⟩,h2⟩
    ·exact fun h=>h.elim
   ·exact fun h=>h.elim
  ·exact fun h=>h.elim
 ·exact fun h=>h.elim
theorem Vv {t:TypeId} {p ix:PVal} {ok:Bool} (h:Fg C t p ix ok K):∃ q,Fg C t p ix ok (·=q)∧K q:=by
 revert h
 unfold Fg
 repeat' (first | exact fun h=>⟨_,⟨h.1,rfl⟩,h.2⟩ | exact fun h=>h.elim | split)
theorem Vz {t:TypeId} {p:PVal} {ok:Bool} (h:Ei C t p ok K):∃ q,Ei C t p ok (·=q)∧K q:=by
 have hz:∀ {K:PVal→Prop},(match tz C.P t with
   | some z=>K (.tuple [z,.bool false])
   | none=>False)→∃ q,(match tz C.P t with
   | some z=>(PVal.tuple [z,.bool false])=q
   | none=>False)∧K q:=fun h=>by
  split at h
  ·exact ⟨_,rfl,h⟩
  ·exact h.elim
 revert h
 unfold Ei
 split
 ·exact fun h=>h.elim
 ·split
  ·rename_i d v
   cases hb:Nat.beq d t with
   | true=>exact fun h=>⟨_,rfl,h⟩
   | false =>
     intro h
     obtain ⟨q,h1,h2⟩:=hz h.2
     exact ⟨q,⟨h.1,h1⟩,h2⟩
  ·intro h
   obtain ⟨q,h1,h2⟩:=hz h.2
   exact ⟨q,⟨h.1,h1⟩,h2⟩
  ·exact fun h=>h.elim
 ·exact fun h=>h.elim
theorem T7 {p:PVal} {i:Nat} (h:D9 p i K):∃ q,D9 p i (·=q)∧K q:=by
 revert h
 unfold D9
 repeat' (first | exact fun h=>⟨_,rfl,h⟩ | exact fun h=>h.elim | split)
theorem wLen_det {t:TypeId} {p:PVal} (h:Qs C t p K):∃ q,Qs C t p (·=q)∧K q:=by
 revert h
 unfold Qs
 repeat' (first | exact fun h=>⟨_,⟨h.1,rfl⟩,h.2⟩ | exact fun h=>⟨_,rfl,h⟩ | exact fun h=>h.elim | split)
theorem T8 {K:PVal→St→Prop} {b:Builtin} (hb:b≠.append) {ts:Array TypeId} {asx:List PVal} (h:Cp C b ts asx σ K fun _ _=>False) :
  ∃ p,Cp C b ts asx σ (fun q τ=>q=p∧τ=σ) (fun _ _=>False)∧K p σ:=by
 revert h
 unfold Cp
 split
 ·split
  ·intro h
   obtain ⟨r,h1,h2⟩:=wLen_det h.2
   exact ⟨r,⟨h.1,Of (fun _ hq=>⟨hq,rfl⟩) h1⟩,h2⟩
  ·exact fun h=>h.elim
 ·split
  ·exact fun h=>⟨_,⟨rfl,rfl⟩,h⟩
  ·exact fun h=>h.elim
 ·split
  ·exact fun h=>⟨_,⟨rfl,rfl⟩,h⟩
  ·exact fun h=>h.elim
 ·split
  ·exact fun h=>h.elim
  ·exact fun h=>h.elim
 ·exact absurd rfl hb
 ·exact fun h=>h.elim
theorem Aa3 {K:PVal→St→Prop} {s t:TypeId} {p:PVal} (h:Kr C s t p σ K):∃ r,Kr C s t p σ (fun q τ=>q=r∧τ=σ)∧K r σ:=by
 revert h
 unfold Kr
 split
 ·split
  ·exact fun h=>⟨_,⟨rfl,rfl⟩,h⟩
  ·exact fun h=>h.elim
 ·exact fun h=>⟨_,⟨h.1,h.2.1,rfl,rfl⟩,h.2.2⟩
 ·rename_i xs
  rintro ⟨h1,h2,h⟩
  split at h
  ·exact ⟨_,⟨h1,h2,rfl,rfl⟩,h⟩
  ·exact h.elim
 ·exact fun h=>h.elim

/-- Operations that leave the blocks alone, and are no calls of functions. -/
def I2:Op→Bool
 | .call c=>match c.callee with
   | .builtin .append=>false
   | .builtin _=>true
   | _=>false
 | .store .. | .alloc _ | .box .. | .buildSlice .. | .makeSlice ..=>false
 | _=>true

theorem Zr {op:Op} (hop:I2 op=true) {K:PVal→St→Prop} (h:wOp C op σ K fun _ _=>False):∃ p,wOp C op σ (fun q τ=>q=p∧τ=σ) (fun _ _=>False)∧K p σ:=by
 have E:∀ {F:(PVal→Prop)→Prop},(∀ {K K':PVal→Prop},(∀ q,K q→K' q)→F K→F K')→(∃ p,F (·=p)∧K p σ)→∃ p,F (fun q=>q=p∧True)∧K p σ:=fun {F} hm ⟨p,h1,h2⟩=>⟨p,hm (fun q hq=>⟨hq,trivial⟩) h1,h2⟩
 cases op <;> simp only [wOp] at h <;> simp only [wOp]
 case move x=>exact ⟨_,⟨rfl,trivial⟩,h⟩
 case assign x=>exact ⟨_,⟨rfl,trivial⟩,h⟩
 case pick c a b =>
  revert h
  split
  ·rename_i t _
   cases t
   ·exact fun h=>⟨_,⟨fun h=>(by cases h),fun _=>⟨rfl,trivial⟩⟩,h.2 rfl⟩
   ·exact fun h=>⟨_,⟨fun _=>⟨rfl,trivial⟩,fun h=>(by cases h)⟩,h.1 rfl⟩
  ·exact fun h=>h.elim
 case alloc t=>cases hop
 case box t x=>cases hop
 case build t ps=>exact E (F:=fun K=>Fp C t ps σ.e K) (fun hK h=>O6 hK h) (X2 h)
 case buildSlice t m ps=>cases hop
 case makeSlice t x y=>cases hop
 case load t x=>exact E (F:=fun K=>Ia C t (val σ.e x) σ K) (fun hK h=>Qr hK h) (Aa1 h)
 case store t x y=>cases hop
 case nilCheck x=>exact E (F:=fun K=>Da (val σ.e x) σ K) (fun hK h=>Kq hK h) (Sa h)
 case binOp bo t x y ty=>exact E (F:=fun K=>Oi C bo t x y (val σ.e x) (val σ.e y) σ K) (fun hK h=>Sy hK h) (wBin_det h)
 case unOp bo t x=>exact E (F:=fun K=>wUn bo (val σ.e x) K) (fun hK h=>Vo hK h) (wUn_det h)
 case convert s t x=>exact Aa3 h
 case makeInterface t x=>exact ⟨_,⟨h.1,rfl,trivial⟩,h.2⟩
 case makeFunc f a b=>exact ⟨_,⟨rfl,trivial⟩,h⟩
 case slice t x lo hi mx =>
  obtain ⟨p,h1,h2⟩:=Xw h.2
  exact ⟨p,⟨h.1,O2 (fun q hq=>⟨hq,trivial⟩) h1⟩,h2⟩
 case fieldAddr s x f=>exact E (F:=fun K=>Cw C s (val σ.e x) f σ K) (fun hK h=>Ke hK h) (Qu h)
 case field s x f=>exact E (F:=fun K=>G1 C s (val σ.e x) f K) (fun hK h=>O5 hK h) (X1 h)
 case indexAddr t x i=>exact E (F:=fun K=>Cv C t (val σ.e x) (val σ.e i) σ K) (fun hK h=>Kd hK h) (Qt h)
 case index t x i=>exact E (F:=fun K=>G0 C t (val σ.e x) (val σ.e i) K) (fun hK h=>O4 hK h) (X0 h)
 case lookup t x i ok=>exact E (F:=fun K=>Fg C t (val σ.e x) (val σ.e i) ok K) (fun hK h=>Nc hK h) (Vv h)
 case typeAssert x xt t ok=>exact E (F:=fun K=>Ei C t (val σ.e x) ok K) (fun hK h=>Ng hK h) (Vz h)
 case extract x i=>exact E (F:=fun K=>D9 (val σ.e x) i K) (fun hK h=>Ma hK h) (T7 h)
 case call c =>
  unfold I2 at hop
  dsimp only at hop
  unfold Sx at h ⊢
  split at hop
  ·cases hop
  ·rename_i b hnb hc
   simp only [hc] at h ⊢
   exact T8 (fun e=>hnb e) h
  ·cases hop
 case panic x =>
  split at h
  ·exact h.elim
  ·exact h.elim
end Go.V
namespace Go.V
open Go

variable {C:Ctx} {n:Nat} {ops:Array Oper}

/-! ### guards -/
def gd (all:List Oper) (o:Oper) (e:Env) (A B:Prop):Prop :=
 match o.guard with
 | none=>A
 | some (j,want)=>match yld all e j with
   | .bool b=>(b=want→A)∧(b=(!want)→B)
   | .tuple []=>B
   | _=>False
theorem M9 {all:List Oper} {o:Oper} {σ:St} {K KP:PVal→St→Prop}:Ft C all o σ K KP=gd all o σ.e (wOp C o.op σ K KP) (K (.tuple []) σ):=by
 unfold Ft gd
 cases o.guard with
 | none=>rfl
 | some g =>
   obtain ⟨j,want⟩:=g
   dsimp only
   cases yld all σ.e j with
   | tuple ps=>cases ps <;> rfl
   | _=>rfl
theorem U5 {all:List Oper} {o:Oper} {e:Env} {A A' B B':Prop} (hA:A→A') (hB:B→B') (h:gd all o e A B):gd all o e A' B':=by
 unfold gd at h ⊢
 split at h
 ·exact hA h
 ·split at h
  ·exact ⟨fun x=>hA (h.1 x),fun x=>hB (h.2 x)⟩
  ·exact hB h
  ·exact h
theorem Mf {o:Oper} {t:Tmp} (h:Operand.tmp t∈o.op.operands.toList):t∈o.looksAt ops:=by
 unfold Oper.looksAt
 exact List.mem_append_left _ (List.mem_filterMap.2 ⟨.tmp t,h,rfl⟩)
theorem Xg {o:Oper} {e e':Env} (ha:∀ t∈o.looksAt ops,gt e t=gt e' t) (A B:Prop):gd ops.toList o e' A B=gd ops.toList o e A B:=by
 unfold gd
 split
 ·rfl
 ·rename_i j want hg
  have:yld ops.toList e' j=yld ops.toList e j:=by
   unfold yld
   split
   ·rename_i o' ho'
    split
    ·rename_i d hd
     refine (ha d ?_).symm
     unfold Oper.looksAt
     refine List.mem_append_right _ ?_
     have h2:ops[j]? = some o':=by simpa using ho'
     simp [hg,h2,hd]
    ·rfl
   ·rfl
  rw [this]

/-! ### quiet steps -/
def Oc (C:Ctx) (op:Op) (σ:St) (K:PVal→Prop):Prop :=
 match op with
 | .buildSlice t m ps=>B7 C t m ps σ K
 | .box e x=>Vy e (val σ.e x) K
 | _=>False
def qOp (C:Ctx) (z:Nat) (op:Op) (σ:St) (p:PVal):Prop :=
 match z with
 | 2=>Oc C op σ (·=p)
 | _=>wOp C op σ (fun q τ=>q=p∧τ=σ) (fun _ _=>False)
def qSt (C:Ctx) (all:List Oper) (z:Nat) (o:Oper) (σ:St) (p:PVal):Prop:=gd all o σ.e (qOp C z o.op σ p) (p=.tuple [])

theorem qOp_env {z:Nat} {op:Op} {e e':Env} {b l:List Blk} {d:List PDef} {p:PVal} (ha:∀ t,.tmp t∈op.operands.toList→gt e t=gt e' t) (h:qOp C z op ⟨e,b,l,d⟩ p):qOp C z op ⟨e',b,l,d⟩ p:=by
 unfold qOp at h ⊢
 split at h
 ·unfold Oc at h ⊢
  split at h
  ·rw [Mn (fun t ht=>ha t (by simpa [Op.operands] using ht))];exact h
  ·rename_i x
   dsimp only at h ⊢
   rw [Lv (e:=e) (e':=e') (fun t ht=>ha t (by subst ht;simp [Op.operands]))]
   exact h
  ·exact h
 ·refine Vr (fun q τ hq=>?_) (fun q τ hq=>hq.2.2) (Zq ha h)
  obtain ⟨h1,h2,h3,h4⟩:=hq
  refine ⟨h3,?_⟩
  cases τ;simp_all
theorem I1 {z:Nat} {o:Oper} {e e':Env} {b l:List Blk} {d:List PDef} {p:PVal} (ha:∀ t∈o.looksAt ops,gt e t=gt e' t) (h:qSt C ops.toList z o ⟨e,b,l,d⟩ p):qSt C ops.toList z o ⟨e',b,l,d⟩ p:=by
 unfold qSt at h ⊢
 dsimp only at h ⊢
 rw [Xg ha]
 exact U5 (fun h=>qOp_env (fun t ht=>ha t (Mf ht)) h) id h
theorem Su {o:Oper} {e e':Env} {b l:List Blk} {d:List PDef} {K KP:PVal→St→Prop} (ha:∀ t∈o.looksAt ops,gt e t=gt e' t) (h:Ft C ops.toList o ⟨e,b,l,d⟩ K KP) :
  Ft C ops.toList o ⟨e',b,l,d⟩ (kE K e e' d) (kE KP e e' d):=by
 rw [M9] at h ⊢
 dsimp only at h ⊢
 rw [Xg ha]
 exact U5 (fun h=>Zq (fun t ht=>ha t (Mf ht)) h) (fun h=>⟨rfl,rfl,h⟩) h
theorem Db {all:List Oper} {o:Oper} {σ:St} {K K' KP KP':PVal→St→Prop} (hK:∀ q τ,K q τ→K' q τ) (hP:∀ q τ,KP q τ→KP' q τ) (h:Ft C all o σ K KP):Ft C all o σ K' KP':=by
 rw [M9] at h ⊢
 exact U5 (Vr hK hP) (hK _ _) h

/-! ### every order -/
structure Pd where
 k:Nat
 z:Nat
 o:Oper
 e:Env
 p:PVal
def Pd.ok (C:Ctx) (all:List Oper) (x:Pd) (σ:St):Prop:=qSt C all x.z x.o ⟨x.e,σ.o,σ.l,σ.d⟩ x.p
def endK (K:St→Prop) (σ:St):Prop:=∃ e,(∀ t,gt e t=gt σ.e t)∧K ⟨e,σ.o,σ.l,σ.d⟩

def Mg (C:Ctx) (n:Nat) (ops:Array Oper) (fl:Nat→Nat) (wt:Nat→Nat→Bool) (KP:PVal→St→Prop) (i:Nat) (pd:List Pd) (σ:St) (N:List Pd→St→Prop):Prop :=
 match ops[i]? with
 | none=>N pd σ
 | some o=>if fl i=1 then Ft C ops.toList o σ (fun p τ=>(∀ x∈pd,wt i x.k=false→x.ok C ops.toList τ)∧N pd (τ.put n o.dst p)) (fun p τ=>∀ e,KP p ⟨e,τ.o,τ.l,τ.d⟩)
   else ∃ p,qSt C ops.toList (fl i) o σ p∧N (⟨i,fl i,o,σ.e,p⟩::pd) (σ.put n o.dst p)

def Pu (C:Ctx) (n:Nat) (ops:Array Oper) (fl:Nat→Nat) (wt:Nat→Nat→Bool) (K:St→Prop) (KP:PVal→St→Prop):Nat→List Pd→Array Bool→St→Prop
 | 0,_,listed,σ=>Region.ready .any ops listed=[]∧endK K σ
 | f + 1,pd,listed,σ=>(Region.ready .any ops listed=[]→endK K σ) ∧
   ∀ i∈Region.ready .any ops listed,Mg C n ops fl wt KP i pd σ fun pd τ=>Pu C n ops fl wt K KP f pd (listed.setIfInBounds i true) τ

variable {fl:Nat→Nat} {wt:Nat→Nat→Bool} {K:St→Prop} {KP:PVal→St→Prop}

theorem Ru (n:Nat) (d:Option Nat) (p:PVal) (e:Env) (t:Nat):gt (put n d p e) t=if d=some t∧t < n then p else gt e t:=by
 cases d with
 | none=>simp [put]
 | some d =>
   simp only [put]
   cases h:Nat.blt d n with
   | false =>
     have hd:¬ d < n:=by intro h';rw [show Nat.blt d n=true from by rw [Nat.blt_eq];exact h'] at h;cases h
     rw [if_neg (by intro hh;obtain ⟨h1,h2⟩:=hh;simp at h1;omega)];rfl
   | true =>
     have hd:d < n:=by rwa [Nat.blt_eq] at h
     simp only [cond_true,gt]
     by_cases e:d=t
     ·subst e;simp [hd]
     ·have:Nat.beq d t=false:=by
       cases hb:Nat.beq d t with
       | false=>rfl
       | true=>exact absurd (Nat.eq_of_beq_eq_true hb) e
      rw [this,if_neg (by simp [e])];rfl

def Eqv (σ τ:St):Prop:=(∀ t,gt σ.e t=gt τ.e t)∧τ.o=σ.o∧τ.l=σ.l∧τ.d=σ.d
def PdLe (C:Ctx) (all:List Oper) (pd pd':List Pd):Prop:=∀ x∈pd',∃ y∈pd,y.k=x.k∧∀ σ,y.ok C all σ→x.ok C all σ
theorem PdLe.refl {all:List Oper} (pd:List Pd):PdLe C all pd pd:=fun x hx=>⟨x,hx,rfl,fun _ h=>h⟩
theorem PdLe.cons {all:List Oper} {pd pd':List Pd} (h:PdLe C all pd pd') {x y:Pd} (hk:y.k=x.k) (hxy:∀ σ,y.ok C all σ→x.ok C all σ):PdLe C all (y::pd) (x::pd'):=fun z hz=>by
 rcases List.mem_cons.1 hz with rfl | hz
 ·exact ⟨y,List.mem_cons_self,hk,hxy⟩
 ·obtain ⟨w,hw,h1,h2⟩:=h z hz
  exact ⟨w,List.mem_cons_of_mem _ hw,h1,h2⟩

theorem Ib:∀ (f:Nat) (pd pd':List Pd) (listed:Array Bool) (σ σ':St),PdLe C ops.toList pd pd'→Eqv σ σ'→Pu C n ops fl wt K KP f pd listed σ→Pu C n ops fl wt K KP f pd' listed σ'
 | 0,_,_,_,σ,σ',_,he,h=>by
   obtain ⟨h1,e,h2,h3⟩:=h
   exact ⟨h1,e,fun t=>(h2 t).trans (he.1 t),by rw [he.2.1,he.2.2.1,he.2.2.2];exact h3⟩
 | f + 1,pd,pd',listed,σ,σ',hp,he,h=>by
   have hend:endK K σ→endK K σ':=fun ⟨e,h2,h3⟩=>⟨e,fun t=>(h2 t).trans (he.1 t),by rw [he.2.1,he.2.2.1,he.2.2.2];exact h3⟩
   refine ⟨fun h0=>hend (h.1 h0),fun i hi=>?_⟩
   have h1:=h.2 i hi
   unfold Mg at h1 ⊢
   split at h1
   ·exact Ib f _ _ _ _ _ hp he h1
   ·rename_i o ho
    obtain ⟨e,b,l,d⟩:=σ
    obtain ⟨e',b',l',d'⟩:=σ'
    obtain ⟨g,rfl,rfl,rfl⟩:=he
    dsimp only at g
    split at h1
    ·rename_i hfl
     simp only [hfl,if_true]
     refine Db (fun q τ hq=>?_) (fun q τ hq=>?_) (Su (e':=e') (fun t _=>g t) h1)
     ·obtain ⟨q1,q2,q3,q4⟩:=hq
      obtain ⟨te,tb,tl,td⟩:=τ
      dsimp only at q1 q2
      subst q1 q2
      refine ⟨fun x hx hw=>?_,Ib f pd pd' _ (St.put ⟨e,tb,tl,td⟩ n o.dst q) _ hp ⟨fun t=>?_,rfl,rfl,rfl⟩ q4⟩
      ·obtain ⟨y,hy,hk,hxy⟩:=hp x hx
       exact hxy _ (q3 y hy (by rw [hk];exact hw))
      ·simp only [St.put,Ru,g]
     ·rw [hq.2.1];exact hq.2.2
    ·rename_i hfl
     simp only [hfl,if_false]
     obtain ⟨p,h2,h3⟩:=h1
     refine ⟨p,I1 (fun t _=>g t) h2,Ib f (⟨i,fl i,o,e,p⟩::pd) _ _ (St.put ⟨e,b',l',d'⟩ n o.dst p) _ (hp.cons rfl fun τ hy=>I1 (fun t _=>g t) hy) ⟨fun t=>?_,rfl,rfl,rfl⟩ h3⟩
     simp only [St.put,Ru,g]

theorem Q1 {i:Nat} {oi:Oper} {p:PVal} (hi:ops[i]? = some oi) (hfl:fl i≠1)
  (hwt:∀ j k,wt j k=true→∃ oj,ops[j]? = some oj∧∃ x∈oj.after,Region.binds .any x=true∧(x.on=k∨wt x.on k=true)):∀ (f:Nat) (pd:List Pd) (listed:Array Bool) (σ:St),
   (∀ j k,listed.getD j false=true→wt j k=true→listed.getD k false=true) →
   (∀ j oj,ops[j]? = some oj→j≠i→listed.getD j true=false→(∀ e∈oj.after,Region.binds .any e=true→e.on≠i)→oi.apart ops oj=true) →
   i∈Region.ready .any ops listed→qSt C ops.toList (fl i) oi σ p →
   Pu C n ops fl wt K KP f (⟨i,fl i,oi,σ.e,p⟩::pd) (listed.setIfInBounds i true) (σ.put n oi.dst p)→Pu C n ops fl wt K KP (f + 1) pd listed σ:=by
 have self:∀ (f:Nat) (pd:List Pd) (listed:Array Bool) (σ:St),qSt C ops.toList (fl i) oi σ p→Pu C n ops fl wt K KP f (⟨i,fl i,oi,σ.e,p⟩::pd) (listed.setIfInBounds i true) (σ.put n oi.dst p) →
   Mg C n ops fl wt KP i pd σ fun pd τ=>Pu C n ops fl wt K KP f pd (listed.setIfInBounds i true) τ:=fun f pd listed σ hy H=>by
  unfold Mg
  simp only [hi,if_neg hfl]
  exact ⟨p,hy,H⟩
 intro f
 induction f with
 | zero =>
   intro pd listed σ _ _ hr hy H
   refine ⟨fun h=>(by rw [h] at hr;cases hr),fun j hj=>?_⟩
   by_cases hji:j=i
   ·subst hji;exact self _ _ _ _ hy H
   ·have:=ready_mono hj hji
    rw [H.1] at this
    cases this
 | succ f ih =>
   intro pd listed σ hcl hfree hr hy H
   refine ⟨fun h=>(by rw [h] at hr;cases hr),fun j hj=>?_⟩
   by_cases hji:j=i
   ·subst hji;exact self _ _ _ _ hy H
   ·have h1:=H.2 j (ready_mono hj hji)
    obtain ⟨hjun,oj,hoj,hall⟩:=mem_ready.1 hj
    have hiun:listed.getD i false=false:=by
     have h0:=(mem_ready.1 hr).1
     rcases Nat.lt_or_ge i listed.size with h' | h'
     ·simp [h'] at h0 ⊢;exact h0
     ·simp [Array.getElem?_eq_none h'] at h0
    have hnot:∀ e∈oj.after,Region.binds .any e=true→e.on≠i:=fun e he hb heq=>by
     have h1:=hall e he hb
     rw [heq,hiun] at h1;cases h1
    have hap:=hfree j oj hoj hji hjun hnot
    obtain ⟨a1,a2,a3⟩:=Oper.apart_spec hap
    have hfree':∀ k ok,ops[k]? = some ok→k≠i→(listed.setIfInBounds j true).getD k true=false →
      (∀ e∈ok.after,Region.binds .any e=true→e.on≠i)→oi.apart ops ok=true:=fun k ok hk hki hun hno=>by
     refine hfree k ok hk hki ?_ hno
     by_cases hjk:j=k
     ·subst hjk;exact hjun
     ·rw [getD_set_ne true hjk] at hun;exact hun
    have hw:∀ k,wt j k=true→listed.getD k false=true:=fun k hk=>by
     obtain ⟨oj',hoj',x,hx,hb,hh⟩:=hwt j k hk
     have:oj'=oj:=Option.some.inj (hoj'.symm.trans hoj)
     subst this
     have h2:=hall x hx hb
     rcases hh with rfl | hh
     ·exact h2
     ·exact hcl _ _ h2 hh
    have hcl':∀ j' k,(listed.setIfInBounds j true).getD j' false=true→wt j' k=true→(listed.setIfInBounds j true).getD k false=true:=fun j' k h hk=>by
     refine getD_set_true ?_
     by_cases hjj:j=j'
     ·subst hjj;exact hw k hk
     ·rw [getD_set_ne false hjj] at h;exact hcl _ _ h hk
    -- what oj looks at is not oi's,and the other way
    have ag1:∀ e:Env,∀ t∈oj.looksAt ops,gt (put n oi.dst p e) t=gt e t:=fun e t ht=>by
     rw [Ru,if_neg]
     rintro ⟨h1,_⟩
     exact a1 t h1 ht
    have ag2:∀ (e:Env) (q:PVal),∀ t∈oi.looksAt ops,gt e t=gt (put n oj.dst q e) t:=fun e q t ht=>by
     rw [Ru,if_neg]
     rintro ⟨h1,_⟩
     exact a3 t h1 ht
    have cm:∀ (e:Env) (q:PVal) (t:Nat),gt (put n oj.dst q (put n oi.dst p e)) t=gt (put n oi.dst p (put n oj.dst q e)) t:=fun e q t=>by
     simp only [Ru]
     by_cases h1:oi.dst=some t∧t < n
     ·have:¬ (oj.dst=some t∧t < n):=fun h2=>a2 t h1.1 h2.1
      rw [if_neg this,if_pos h1,if_pos h1]
     ·rw [if_neg h1,if_neg h1]
    unfold Mg at h1 ⊢
    simp only [hoj] at h1 ⊢
    rw [show ((listed.setIfInBounds i true).setIfInBounds j true)=((listed.setIfInBounds j true).setIfInBounds i true) from Array.setIfInBounds_comm _ _ (Ne.symm hji)] at h1
    obtain ⟨e,b,l,d⟩:=σ
    split at h1
    ·rename_i hfj
     simp only [hfj,if_true]
     refine Db (fun q τ hq=>?_) (fun q τ hq=>?_) (Su (e':=e) (ag1 e) h1)
     ·obtain ⟨q1,q2,q3,q4⟩:=hq
      obtain ⟨te,tb,tl,td⟩:=τ
      dsimp only at q1 q2
      subst q1 q2
      refine ⟨fun x hx hwx=>q3 x (List.mem_cons_of_mem _ hx) hwx,ih pd _ _ hcl' hfree' (ready_mono hr (Ne.symm hji)) ?_ ?_⟩
      ·refine I1 (ag2 _ q) (q3 _ List.mem_cons_self ?_)
       cases hh:wt j i with
       | false=>rfl
       | true=>have:=hw i hh;rw [hiun] at this;cases this
      ·exact Ib f (⟨i,fl i,oi,te,p⟩::pd) _ _ ((St.mk (put n oi.dst p te) tb tl td).put n oj.dst q) _ ((PdLe.refl pd).cons rfl fun τ hy=>I1 (ag2 _ q) hy) ⟨fun t=>cm _ q t,rfl,rfl,rfl⟩ q4
     ·rw [hq.2.1];exact hq.2.2
    ·rename_i hfj
     simp only [hfj,if_false]
     obtain ⟨q,h2,h3⟩:=h1
     refine ⟨q,I1 (ag1 e) h2,ih _ _ _ hcl' hfree' (ready_mono hr (Ne.symm hji)) (I1 (ag2 _ q) hy) (Ib f (⟨j,fl j,oj,put n oi.dst p e,q⟩::⟨i,fl i,oi,e,p⟩::pd) _ _ (((St.mk e b l d).put n oi.dst p).put n oj.dst q) _ ?_ ⟨fun t=>cm _ q t,rfl,rfl,rfl⟩ h3)⟩
     intro x hx
     rcases List.mem_cons.1 hx with rfl | hx
     ·exact ⟨_,List.mem_cons_of_mem _ List.mem_cons_self,rfl,fun τ hy=>I1 (ag2 _ q) hy⟩
     ·rcases List.mem_cons.1 hx with rfl | hx
      ·exact ⟨_,List.mem_cons_self,rfl,fun τ hy=>I1 (ag1 e) hy⟩
      ·exact ⟨x,List.mem_cons_of_mem _ (List.mem_cons_of_mem _ hx),rfl,fun _ h=>h⟩
end Go.V
namespace Go.V
open Go

variable {C:Ctx} {n:Nat} {ops:Array Oper} {fl:Nat→Nat} {wt:Nat→Nat→Bool}

theorem Xf {V:View} {σ:St} {a:Act} (hR:Rel C n V σ a) {o:Oper} {A B:Prop} (h:gd ops.toList o σ.e A B) {X Y Z:Prop} (hA:A→X) (hB:B→Z) :
  if Region.wanted o (yielded ops a.tmps)=true then X∨Y else Z:=by
 unfold gd at h
 have dst:∀ j q,yld ops.toList σ.e j=q→(∃ d,(ops[j]?).bind (·.dst)=some d∧gt σ.e d=q)∨q=.any:=fun j q hy=>by
  unfold yld at hy
  split at hy
  ·rename_i o' ho'
   have:ops[j]? = some o':=by simpa using ho'
   split at hy
   ·rename_i d hd
    exact .inl ⟨d,by simp [this,hd],hy⟩
   ·exact .inr hy.symm
  ·exact .inr hy.symm
 split at h
 ·rename_i hg
  have hw:Region.wanted o (yielded ops a.tmps)=true:=by unfold Region.wanted;simp [hg]
  rw [if_pos hw]
  exact .inl (hA h)
 ·rename_i j want hg
  split at h
  ·rename_i b hy
   rcases dst j _ hy with ⟨d,hdd,hd⟩ | hn
   ·have hr:=hR.env d
    rw [hd] at hr
    generalize hv:a.tmps.getD d undef=v at hr
    cases hr
    rw [Ob o ops a.tmps j want hg d b hdd hv]
    by_cases e:b=want
    ·subst e
     rw [if_pos (by simp)]
     exact .inl (hA (h.1 rfl))
    ·rw [if_neg (by simpa using e)]
     exact hB (h.2 (by cases b <;> cases want <;> simp_all))
   ·cases hn
  ·rename_i hy
   rcases dst j _ hy with ⟨d,hdd,hd⟩ | hn
   ·have hr:=hR.env d
    rw [hd] at hr
    generalize hv:a.tmps.getD d undef=v at hr
    cases hr with
    | @tuple ps vs hl _ =>
      obtain rfl:vs=#[]:=Array.eq_empty_of_size_eq_zero hl
      rw [Mk o ops a.tmps j want hg d hdd hv,if_neg (by simp)]
      exact hB h
   ·cases hn
  ·exact h.elim

theorem S9 {V:View} {σ:St} {a:Act} (hR:Rel C n V σ a) {o:Oper} {z:Nat} {p:PVal} (h:qOp C z o.op σ p) {next:Act→World→Prop} {Q:Exit→Act→World→Prop}
  (hn:∀ V' v,Went C V σ V' σ→Rep V' p v→next (a.put o.dst v) V'.w):o.wp C.P a V.w next Q:=by
 unfold qOp at h
 split at h
 ·have loud:∀ {s:Sem Value},execOp a.eval o=(do pure (.value (← s)))→(∃ V' q u,s.run C.P V.w=.ok u V'.w∧Went C V σ V' σ∧Rep V' q u∧q=p)→o.wp C.P a V.w next Q:=fun {s} he ⟨V',q,u,hr,hw,hq,hk⟩ =>
   Co (by rw [he,Sem.run_bind,hr];rfl) (hn V' u hw (hk ▸ hq))
  unfold Oc at h
  split at h
  ·rename_i hop
   exact loud (by unfold execOp;rw [hop]) (Mm hR h)
  ·rename_i hop
   exact loud (by unfold execOp;rw [hop]) (Vx hR.mem (Bp hR _) h)
  ·exact h.elim
 ·exact Ls hR h ⟨fun V' σ' q v hw hq ⟨h1,h2⟩=>by subst h1 h2;exact hn V' v hw hq,fun V' σ' q v hw hq hh=>hh.elim⟩

theorem Qz {Q:AEx→St→Prop} {V0:View}:∀ (f:Nat) (pd:List Pd) (listed:Array Bool) (V:View) (σ:St) (a:Act),Later V0 V→Rel C n V σ a →
  Pu C n ops fl wt (Q .normal) (fun p σ=>Q (.pan p) σ) f pd listed σ→wpAny C.P .any ops (Kn C n V0 Q) f listed a V.w:=by
 have fin:∀ (V:View) (σ:St) (a:Act),Later V0 V→Rel C n V σ a→endK (Q .normal) σ→Kn C n V0 Q .normal a V.w:=fun V σ a hl hR ⟨e,h1,h2⟩ =>
  ⟨V,⟨e,σ.o,σ.l,σ.d⟩,.normal,rfl,hl,⟨hR.mem,fun t=>by show Rep V (gt e t) _;rw [h1];exact hR.env t,hR.tmps,hR.defers⟩,trivial,h2⟩
 intro f
 induction f with
 | zero=>exact fun pd listed V σ a hl hR h=>⟨h.1,fin V σ a hl hR h.2⟩
 | succ f ih =>
   intro pd listed V σ a hl hR h
   refine ⟨fun h0=>fin V σ a hl hR (h.1 h0),fun i hi=>?_⟩
   have h1:=h.2 i hi
   unfold Mg at h1
   unfold wpOp
   split
   ·rename_i ho
    simp only [ho] at h1
    exact ih _ _ V σ a hl hR h1
   ·rename_i o ho
    simp only [ho] at h1
    split at h1
    ·rw [M9] at h1
     refine Xf hR h1 (fun h=>?_) (fun h=>ih _ _ V _ _ hl (Fk hR (Qb V) o.dst) h.2)
     refine Ls hR h ⟨fun V' σ' p v hw hp hK=>ih _ _ V' _ _ (hl.trans hw.later) (Fk (hw.rel hR) hp o.dst) hK.2,fun V' σ' p v hw hp hK=>?_⟩
     exact ⟨V',⟨σ'.e,σ'.o,σ'.l,σ'.d⟩,.pan p,rfl,hl.trans hw.later,hw.rel hR,⟨v,rfl,hp⟩,hK σ'.e⟩
    ·obtain ⟨p,h2,h3⟩:=h1
     refine Xf hR h2 (fun h=>?_) (fun h=>?_)
     ·exact S9 hR h fun V' v hw hp=>ih _ _ V' _ _ (hl.trans hw.later) (Fk (hw.rel hR) hp o.dst) h3
     ·subst h;exact ih _ _ V _ _ hl (Fk hR (Qb V) o.dst) h3

/-! ### the plan -/
/-- Operation i: how it is taken (0 quiet, 1 loud, 2 a literal that nobody writes, else a quiet call), whether its value is asked for again, and (of a loud one) whose values are asked for again behind it. -/
structure Pl where
 i:Nat
 z:Nat
 keep:Bool
 need:List Nat

def Jg:List Nat→Nat→Bool
 | [],_=>false
 | a::r,k=>if a=k then true else Jg r k
theorem Xe (k:Nat):Jg [] k=false:=rfl
theorem Tl (a:Nat) (r:List Nat) (k:Nat):Jg (a::r) k=if a=k then true else Jg r k:=rfl

def obl (C:Ctx) (all:List Oper) (need:List Nat):List Pd→St→Prop
 | [],_=>True
 | x::r,σ=>(Jg need x.k=true→x.ok C all σ)∧obl C all need r σ
theorem Rh {all:List Oper} {need:List Nat}:∀ {pd:List Pd} {σ:St},obl C all need pd σ→∀ x∈pd,Jg need x.k=true→x.ok C all σ
 | [],_,_,x,hx,_=>by cases hx
 | y::r,σ,h,x,hx,hn=>by
   rcases List.mem_cons.1 hx with rfl | hx
   ·exact h.1 hn
   ·exact Rh h.2 x hx hn

def Gh (all:List Oper):List Pl→List (Pl × Oper)
 | []=>[]
 | x::r=>match all[x.i]? with
   | some o=>(x,o)::Gh all r
   | none=>[]

def Ou:Bool→Pd→List Pd→List Pd
 | true,x,r=>x::r
 | false,_,r=>r

def wDr (C:Ctx) (n:Nat) (all:List Oper) (K:St→Prop) (KP:PVal→St→Prop):List (Pl × Oper)→List Pd→St→Prop
 | [],_,σ=>K σ
 | (x,o)::r,pd,σ=>match x.z with
   | 0=>Ft C all o σ (fun p τ=>wDr C n all K KP r (Ou x.keep ⟨x.i,0,o,σ.e,p⟩ pd) (τ.put n o.dst p)) (fun _ _=>False)
   | 1=>Ft C all o σ (fun p τ=>obl C all x.need pd τ∧wDr C n all K KP r pd (τ.put n o.dst p)) (fun p τ=>∀ e,KP p ⟨e,τ.o,τ.l,τ.d⟩)
   | z=>∃ p,qSt C all z o σ p∧wDr C n all K KP r (Ou x.keep ⟨x.i,z,o,σ.e,p⟩ pd) (σ.put n o.dst p)

def Js (rows:List Nat) (j k:Nat):Bool:=(rows.getD j 0).testBit k
def Pc (ops:Array Oper) (fl:Nat→Nat) (rows:List Nat):List Pl→Array Bool→List (Nat × Bool)→Bool
 | [],listed,_=>(Region.ready .any ops listed).isEmpty
 | x::r,listed,done=>fl x.i == x.z && match ops[x.i]? with
   | none=>false
   | some o=>match x.z with
     | 1=>(Region.ready .any ops listed == [x.i]) && done.all (fun d=>Js rows x.i d.1 || (d.2 && Jg x.need d.1)) && Pc ops fl rows r (listed.setIfInBounds x.i true) done
     | z=>(z != 0 || I2 o.op) && (Region.ready .any ops listed).contains x.i && Region.free .any ops listed x.i && Pc ops fl rows r (listed.setIfInBounds x.i true) ((x.i,x.keep)::done)

def flOf (plan:List Pl) (i:Nat):Nat:=((plan.find? fun x=>x.i == i).map (·.z)).getD 0
/-- 'rows' are right: whoever waits for k waits for it itself, or for one who does. -/
def S5 (ops:Array Oper) (rows:List Nat):Bool :=
 (List.range rows.length).all fun j=>(List.range (ops.size + 1)).all fun k=>!Js rows j k || match ops[j]? with
  | some o=>o.after.any fun e=>Region.binds .any e && (e.on == k || Js rows e.on k)
  | none=>false
def hiB (ops:Array Oper) (rows:List Nat):Bool:=rows.all fun r=>r < 2 ^ (ops.size + 1)
def Tq (ops:Array Oper) (plan:List Pl) (rows:List Nat):Bool :=
 plan.length == ops.size && S5 ops rows && hiB ops rows && Pc ops (flOf plan) rows plan (Array.replicate ops.size false) []

theorem Lz {rows:List Nat} (h:S5 ops rows=true) (h':hiB ops rows=true) (j k:Nat) (hb:Js rows j k=true) :
  ∃ oj,ops[j]? = some oj∧∃ x∈oj.after,Region.binds .any x=true∧(x.on=k∨Js rows x.on k=true):=by
 have hj:j < rows.length:=by
  rcases Nat.lt_or_ge j rows.length with h | h
  ·exact h
  ·unfold Js at hb
   rw [List.getD_eq_getElem?_getD,List.getElem?_eq_none h] at hb
   simp at hb
 have hk:k < ops.size + 1:=by
  rcases Nat.lt_or_ge k (ops.size + 1) with hk | hk
  ·exact hk
  ·exfalso
   have h1:=List.all_eq_true.1 h' (rows.getD j 0) (by
    rw [List.getD_eq_getElem?_getD,List.getElem?_eq_getElem hj];exact List.getElem_mem _)
   have h2:rows.getD j 0 < 2 ^ k:=Nat.lt_of_lt_of_le (by simpa using h1) (Nat.pow_le_pow_right (by omega) hk)
   unfold Js at hb
   rw [Nat.testBit_lt_two_pow h2] at hb
   cases hb
 have h1:=List.all_eq_true.1 (List.all_eq_true.1 h j (List.mem_range.2 hj)) k (List.mem_range.2 hk)
 rw [hb] at h1
 simp only [Bool.not_true,Bool.false_or] at h1
 split at h1
 ·rename_i o ho
  obtain ⟨e,he,hb'⟩:=Array.any_eq_true'.1 h1
  simp only [Bool.and_eq_true,Bool.or_eq_true,beq_iff_eq] at hb'
  exact ⟨o,ho,e,he,hb'.1,hb'.2⟩
 ·cases h1

theorem Ur {all:List Oper} {o:Oper} {σ:St} {K:PVal→Prop} (hp:I2 o.op=true) (h:Ft C all o σ (fun p τ=>τ=σ→K p) (fun _ _=>False)):∃ p,qSt C all 0 o σ p∧K p:=by
 rw [M9] at h
 unfold qSt gd at *
 cases hg:o.guard with
 | none =>
   rw [hg] at h
   obtain ⟨p,h1,h2⟩:=Zr hp h
   exact ⟨p,h1,h2 rfl⟩
 | some g =>
   obtain ⟨j,want⟩:=g
   rw [hg] at h
   dsimp only at h ⊢
   split at h
   ·rename_i b hb
    by_cases e:b=want
    ·obtain ⟨p,h1,h2⟩:=Zr hp (h.1 e)
     exact ⟨p,⟨fun _=>h1,fun hn=>by subst e;cases b <;> cases hn⟩,h2 rfl⟩
    ·exact ⟨.tuple [],⟨fun he=>absurd he e,fun _=>rfl⟩,h.2 (by cases b <;> cases want <;> simp_all) rfl⟩
   ·exact ⟨.tuple [],rfl,h rfl⟩
   ·exact h.elim

theorem Qn {all:List Oper} {o:Oper} {σ:St} {K:PVal→St→Prop} (hp:I2 o.op=true) (h:Ft C all o σ K (fun _ _=>False)):∃ p,qSt C all 0 o σ p∧K p σ :=
 Ur hp (Db (fun _ _ hk e=>e ▸ hk) (fun _ _ h=>h) h)

theorem Lt {rows:List Nat} (hr:S5 ops rows=true) (hr':hiB ops rows=true) {K:St→Prop} {KP:PVal→St→Prop}:∀ (plan:List Pl) (listed:Array Bool) (done:List (Nat × Bool)) (pd pk:List Pd) (σ:St),
  (∀ j k,listed.getD j false=true→Js rows j k=true→listed.getD k false=true) →
  (∀ x∈pd,∃ kp,(x.k,kp)∈done∧(kp=true→x∈pk))→Pc ops fl rows plan listed done=true→wDr C n ops.toList K KP (Gh ops.toList plan) pk σ→Pu C n ops fl (Js rows) K KP plan.length pd listed σ
 | [],listed,done,pd,pk,σ,_,_,hB,h=>⟨by simpa [Pc] using hB,σ.e,fun _=>rfl,h⟩
 | x::r,listed,done,pd,pk,σ,hcl,hpd,hB,h=>by
   unfold Pc at hB
   simp only [Bool.and_eq_true,beq_iff_eq] at hB
   obtain ⟨hf,hB⟩:=hB
   split at hB
   ·cases hB
   ·rename_i o ho
    have ho':ops.toList[x.i]? = some o:=by simpa using ho
    unfold Gh at h
    rw [ho'] at h
    dsimp only at h
    have hclr:x.i∈Region.ready .any ops listed→∀ j k,(listed.setIfInBounds x.i true).getD j false=true→Js rows j k=true→(listed.setIfInBounds x.i true).getD k false=true:=fun hx j k h hk=>by
     refine getD_set_true ?_
     by_cases hj:x.i=j
     ·subst hj
      obtain ⟨_,o2,ho2,hall⟩:=mem_ready.1 hx
      obtain ⟨o3,ho3,e,he,hb,hh⟩:=Lz hr hr' _ _ hk
      have:o3=o2:=Option.some.inj (ho3.symm.trans ho2)
      subst this
      have h2:=hall e he hb
      rcases hh with rfl | hh
      ·exact h2
      ·exact hcl _ _ h2 hh
     ·rw [getD_set_ne false hj] at h;exact hcl _ _ h hk
    unfold wDr at h
    have quiet:∀ p,fl x.i≠1→x.i∈Region.ready .any ops listed→Region.free .any ops listed x.i=true→Pc ops fl rows r (listed.setIfInBounds x.i true) ((x.i,x.keep)::done)=true →
      qSt C ops.toList (fl x.i) o σ p→wDr C n ops.toList K KP (Gh ops.toList r) (Ou x.keep ⟨x.i,fl x.i,o,σ.e,p⟩ pk) (σ.put n o.dst p) →
      Pu C n ops fl (Js rows) K KP (r.length + 1) pd listed σ:=fun p hne hrd hfree hB hq hK=>by
     refine Q1 ho hne (Lz hr hr') r.length pd listed σ hcl (Region.free_spec ho hfree) hrd hq (Lt hr hr' r _ _ _ _ _ (hclr hrd) ?_ hB hK)
     intro y hy
     rcases List.mem_cons.1 hy with rfl | hy
     ·refine ⟨x.keep,List.mem_cons_self,fun hk=>?_⟩
      rw [hk];exact List.mem_cons_self
     ·obtain ⟨kp,h1,h2⟩:=hpd y hy
      refine ⟨kp,List.mem_cons_of_mem _ h1,fun hk=>?_⟩
      cases x.keep
      ·exact h2 hk
      ·exact List.mem_cons_of_mem _ (h2 hk)
    split at hB
    ·rename_i hz
     simp only [Bool.and_eq_true,beq_iff_eq] at hB
     obtain ⟨⟨h1,h2⟩,h3⟩:=hB
     have hmem:x.i∈Region.ready .any ops listed:=by rw [h1];exact List.mem_singleton.2 rfl
     rw [hz] at h hf
     refine ⟨fun h0=>(by rw [h1] at h0;cases h0),fun i hi=>?_⟩
     rw [h1] at hi
     have:i=x.i:=List.mem_singleton.1 hi
     subst this
     unfold Mg
     simp only [ho,hf,if_true]
     refine Db (fun p τ hk=>⟨fun y hy hw=>?_,Lt hr hr' r _ _ _ _ _ (hclr hmem) hpd h3 hk.2⟩) (fun _ _ h=>h) h
     obtain ⟨kp,hd,hin⟩:=hpd y hy
     have h4:=List.all_eq_true.1 h2 _ hd
     rw [hw] at h4
     simp only [Bool.false_or,Bool.and_eq_true] at h4
     exact Rh hk.1 y (hin h4.1) h4.2
    ·rename_i hz
     simp only [Bool.and_eq_true,Bool.or_eq_true] at hB
     obtain ⟨⟨⟨h0,h1⟩,h2⟩,h3⟩:=hB
     have hmem:x.i∈Region.ready .any ops listed:=by simpa using h1
     split at h
     ·rename_i hz0
      have hp:I2 o.op=true:=by
       rcases h0 with h0 | h0
       ·rw [hz0] at h0;simp at h0
       ·exact h0
      obtain ⟨p,hq,hK⟩:=Qn hp h
      rw [hz0] at hf
      exact quiet p (by rw [hf];decide) hmem h2 h3 (by rw [hf];exact hq) (by rw [hf];exact hK)
     ·rename_i hz1
      exact absurd hz1 hz
     ·obtain ⟨p,hq,hK⟩:=h
      exact quiet p (by rw [hf];exact hz) hmem h2 h3 (by rw [hf];exact hq) (by rw [hf];exact hK)

theorem Rel.drew {V:View} {σ:St} {a:Act} (h:Rel C n V σ a):Rel C n V.drew σ a :=
 Went.rel ⟨V.to_drew,V.later_drew,h.mem.drew,rfl,rfl⟩ h

/-- THE RULE: a region that draws its order, walked by a plan. -/
theorem WC.draw {id:Nat} {l:List Oper} {σ:St} {Q:AEx→St→Prop} (plan:List Pl) (rows:List Nat) (hm:C.P.follows .mixedOrders=true) (hB:Tq l.toArray plan rows=true)
  (h:wDr C n l (Q .normal) (fun p σ=>Q (.pan p) σ) (Gh l plan) [] σ):WC C n (.region id l.toArray true) σ Q:=fun V a hR=>by
 unfold Tq at hB
 simp only [Bool.and_eq_true,beq_iff_eq] at hB
 obtain ⟨⟨⟨h1,h2⟩,h3⟩,h4⟩:=hB
 refine wp_region_any hm ?_
 rw [←h1]
 refine Qz (V0:=V) (fl:=flOf plan) (wt:=Js rows) plan.length [] _ V.drew σ a V.later_drew hR.drew ?_
 exact Lt h2 h3 plan _ [] [] [] σ (fun j k hj=>by rw [show (Array.replicate plan.length false).getD j false=false from by rcases Nat.lt_or_ge j plan.length with h | h <;> simp [h]] at hj;cases hj) (fun x hx=>by cases hx) (by rw [h1];exact h4) h
end Go.V
namespace Go.V
open Go

variable {C:Ctx} {n:Nat}

theorem gt_nil (i:Nat):gt [] i=.any:=rfl
theorem J5 (k:Nat) (v:PVal) (r:Env) (i:Nat):gt ((k,v)::r) i=if k=i then v else gt r i:=by
 simp only [gt]
 cases h:Nat.beq k i with
 | true=>rw [if_pos (Nat.eq_of_beq_eq_true h)];rfl
 | false=>rw [if_neg (fun e=>by subst e;simp at h)];rfl
theorem Le (e:Env) (o l:List Blk) (d:List PDef) (n t:Nat) (p:PVal):St.put ⟨e,o,l,d⟩ n (some t) p=if t < n then ⟨(t,p)::e,o,l,d⟩ else ⟨e,o,l,d⟩:=by
 simp only [St.put,put]
 cases h:Nat.blt t n with
 | true=>rw [if_pos (by rwa [Nat.blt_eq] at h)];rfl
 | false=>rw [if_neg (fun h'=>by rw [show Nat.blt t n=true from by rw [Nat.blt_eq];exact h'] at h;cases h)];rfl
theorem put_none (σ:St) (n:Nat) (p:PVal):St.put σ n none p=σ:=rfl
theorem val_tmp (e:Env) (t:Nat):val e (.tmp t)=gt e t:=rfl
theorem val_func (e:Env) (f:Nat):val e (.func f)=.fn (.func f) [] []:=rfl
theorem X5 (e:Env) (g:Nat):val e (.global g)=.gptr g 0:=rfl
theorem val_int (e:Env) (k:IntKind) (m:Int):val e (.const (.int k m))=.int k m:=rfl
theorem val_bool (e:Env) (b:Bool):val e (.const (.bool b))=.bool b:=rfl
theorem val_str (e:Env) (l:List UInt8):val e (.const (.string { data:=l.toArray }))=.str l:=rfl
theorem val_nils (e:Env):val e (.const (.slice none 0 0))=.nils:=rfl
theorem val_nilp (e:Env):val e (.const (.pointer none))=.nilp:=rfl
theorem Aa5 (e:Env):val e (.const .nilIface)=.niliface:=rfl

theorem wOps_nil (all:List Oper) (σ:St) (K:St→Prop) (KP:PVal→St→Prop):Ja C n all [] σ K KP=K σ:=rfl
theorem wOps_plain (all:List Oper) (d:Option Nat) (op:Op) (ty:TypeId) (pos:String) (af:Array Edge) (os:List Oper) (σ:St) (K:St→Prop) (KP:PVal→St→Prop) :
  Ja C n all ({ dst:=d,op:=op,type:=ty,pos:=pos,after:=af,guard:=none }::os) σ K KP=wOp C op σ (fun p σ'=>Ja C n all os (σ'.put n d p) K KP) KP:=rfl

/-- Marks what the reckoning shall not go into: what a later argument's type speaks of is left alone. -/
inductive Tag2 (A B:Prop):Type where
 | mk
inductive TagK (A B:PVal→St→Prop):Type where
 | mk
/-- At a guard, or a choice: A where the bool is 'want', else B. -/
def gW (p:PVal) (want:Bool) (A B:Prop) (_:Tag2 A B):Prop :=
 match p with
 | .bool b=>(b=want→A)∧(b=(!want)→B)
 | .tuple []=>B
 | _=>False
theorem gW_u (want:Bool) (A B:Prop) (u:Tag2 A B):gW (.tuple []) want A B u=B:=rfl
theorem gW_tt (A B:Prop) (u:Tag2 A B):gW (.bool true) true A B u=A:=by simp [gW]
theorem gW_tf (A B:Prop) (u:Tag2 A B):gW (.bool true) false A B u=B:=by simp [gW]
theorem gW_ft (A B:Prop) (u:Tag2 A B):gW (.bool false) true A B u=B:=by simp [gW]
theorem gW_ff (A B:Prop) (u:Tag2 A B):gW (.bool false) false A B u=A:=by simp [gW]
/-- At a choice. -/
def gP (p:PVal) (A B:Prop) (_:Tag2 A B):Prop :=
 match p with
 | .bool b=>(b=true→A)∧(b=false→B)
 | _=>False
theorem gP_t (A B:Prop) (u:Tag2 A B):gP (.bool true) A B u=A:=by simp [gP]
theorem gP_f (A B:Prop) (u:Tag2 A B):gP (.bool false) A B u=B:=by simp [gP]
theorem Gm {b:Bool} {A B:Prop} {u:Tag2 A B} (h1:b=true→A) (h2:b=false→B):gP (.bool b) A B u:=⟨h1,h2⟩
theorem Eb {b want:Bool} {A B:Prop} {u:Tag2 A B} (h1:b=want→A) (h2:b=(!want)→B):gW (.bool b) want A B u:=⟨h1,h2⟩
theorem wOps_guard (all:List Oper) (d:Option Nat) (op:Op) (ty:TypeId) (pos:String) (af:Array Edge) (j:Nat) (want:Bool) (os:List Oper) (σ:St) (K:St→Prop) (KP:PVal→St→Prop) :
  Ja C n all ({ dst:=d,op:=op,type:=ty,pos:=pos,after:=af,guard:=some (j,want) }::os) σ K KP =
   gW (yld all σ.e j) want (wOp C op σ (fun p σ'=>Ja C n all os (σ'.put n d p) K KP) KP) (Ja C n all os (σ.put n d (.tuple [])) K KP) .mk:=rfl
theorem Vl (o:Oper) (os:List Oper) (e:Env) (j:Nat):yld (o::os) e (j + 1)=yld os e j:=by simp [yld]
theorem Vk (d:Nat) (op:Op) (ty:TypeId) (pos:String) (af:Array Edge) (g:Option (Nat × Bool)) (os:List Oper) (e:Env) :
  yld ({ dst:=some d,op:=op,type:=ty,pos:=pos,after:=af,guard:=g }::os) e 0=gt e d:=by simp [yld]

inductive TagO (all os:List Oper) (K:St→Prop) (KP:PVal→St→Prop):Type where
 | mk
inductive TagP (op:Op) (K KP:PVal→St→Prop):Type where
 | mk
/-- The rows and the operations, marked: only the state is looked into. -/
def H8 (C:Ctx) (n:Nat) (all os:List Oper) (σ:St) (K:St→Prop) (KP:PVal→St→Prop) (_:TagO all os K KP):Prop:=Ja C n all os σ K KP
def Do (C:Ctx) (op:Op) (σ:St) (K KP:PVal→St→Prop) (_:TagP op K KP):Prop:=wOp C op σ K KP

/-! the operations -/
section
variable (σ:St) (K KP:PVal→St→Prop)
theorem wOp_move (x:Operand):wOp C (.move x) σ K KP=K (val σ.e x) σ:=rfl
theorem Xx (x:Operand):wOp C (.assign x) σ K KP=K (val σ.e x) σ:=rfl
theorem wOp_pick (c a b:Operand):wOp C (.pick c a b) σ K KP=gP (val σ.e c) (K (val σ.e a) σ) (K (val σ.e b) σ) .mk:=by
 simp only [wOp,gP];cases val σ.e c <;> rfl
theorem Aa0 (e:TypeId):wOp C (.alloc e) σ K KP=Jb C e σ K:=rfl
theorem wOp_box (e:TypeId) (x:Operand):wOp C (.box e x) σ K KP=Ub e (val σ.e x) σ K:=rfl
theorem Aay (t:TypeId) (ps:Array (Nat × Operand)):wOp C (.build t ps) σ K KP=Fp C t ps σ.e fun q=>K q σ:=rfl
theorem Qp (t m:Nat) (ps:Array (Nat × Operand)):wOp C (.buildSlice t m ps) σ K KP=C7 C t m ps σ K:=rfl
theorem R7 (t:TypeId) (x y:Operand):wOp C (.makeSlice t x y) σ K KP=Dz C t (val σ.e x) (val σ.e y) σ K:=rfl
theorem wOp_load (t:TypeId) (x:Operand):wOp C (.load t x) σ K KP=Ia C t (val σ.e x) σ fun q=>K q σ:=rfl
theorem Aau (t:TypeId) (x y:Operand):wOp C (.store t x y) σ K KP=Hi C t (val σ.e x) (val σ.e y) σ fun σ'=>K .any σ':=rfl
theorem T0 (x:Operand):wOp C (.nilCheck x) σ K KP=Da (val σ.e x) σ fun q=>K q σ:=rfl
theorem Aaz (op:BinOp) (t ty:TypeId) (x y:Operand):wOp C (.binOp op t x y ty) σ K KP=Oi C op t x y (val σ.e x) (val σ.e y) σ fun q=>K q σ:=rfl
theorem wOp_unOp (op:UnOp) (t:TypeId) (x:Operand):wOp C (.unOp op t x) σ K KP=wUn op (val σ.e x) fun q=>K q σ:=rfl
theorem Vt (s d:TypeId) (x:Operand):wOp C (.convert s d x) σ K KP=Kr C s d (val σ.e x) σ K:=rfl
theorem Nb (t:TypeId) (x:Operand):wOp C (.makeInterface t x) σ K KP=H9 C t (val σ.e x) fun q=>K q σ:=rfl
theorem T4 (f:Fn) (a b:List Operand):wOp C (.makeFunc f a.toArray b.toArray) σ K KP=K (.fn f (a.map (val σ.e)) (b.map (val σ.e))) σ:=rfl
theorem Aav (t:TypeId) (x:Operand) (lo hi:Option Operand):wOp C (.slice t x lo hi none) σ K KP=Hj C t (val σ.e x) (lo.map (val σ.e)) (hi.map (val σ.e)) σ fun q=>K q σ:=by
 simp [wOp]
theorem R9 (s:TypeId) (x:Operand) (f:Nat):wOp C (.fieldAddr s x f) σ K KP=Cw C s (val σ.e x) f σ fun q=>K q σ:=rfl
theorem Aax (t:TypeId) (x:Operand) (f:Nat):wOp C (.field t x f) σ K KP=G1 C t (val σ.e x) f fun q=>K q σ:=rfl
theorem R8 (t:TypeId) (x i:Operand):wOp C (.indexAddr t x i) σ K KP=Cv C t (val σ.e x) (val σ.e i) σ fun q=>K q σ:=rfl
theorem Aaw (t:TypeId) (x i:Operand):wOp C (.index t x i) σ K KP=G0 C t (val σ.e x) (val σ.e i) fun q=>K q σ:=rfl
theorem Vs (x:Operand) (i:Nat):wOp C (.extract x i) σ K KP=D9 (val σ.e x) i fun q=>K q σ:=rfl
theorem Vu (b:Builtin) (args:List Operand) (ts:List TypeId):wOp C (.call { callee:=.builtin b,args:=args.toArray,argTypes:=ts.toArray }) σ K KP=Cp C b ts.toArray (args.map (val σ.e)) σ K KP:=rfl
/-- A call, what follows marked. -/
def CallX (C:Ctx) (g:FuncId) (args:List PVal) (σ:St) (K KP:PVal→St→Prop) (_:TagK K KP):Prop:=CallW C g args σ K KP
theorem CallX.mk {g:FuncId} {args:List PVal} {σ:St} {K KP:PVal→St→Prop} {u:TagK K KP} (h:CallW C g args σ K KP):CallX C g args σ K KP u:=h
/-- The call of a function value. -/
def fW (C:Ctx) (f:PVal) (args:List PVal) (σ:St) (K KP:PVal→St→Prop):Prop :=
 match f with
 | .fn (.func g) first caps=>CallX C g (first ++ (args ++ caps)) σ K KP .mk
 | _=>False
theorem Aat (f:Operand) (args:List Operand) (ts:List TypeId):wOp C (.call { callee:=.value f,args:=args.toArray,argTypes:=ts.toArray }) σ K KP=fW C (val σ.e f) (args.map (val σ.e)) σ K KP:=by
 simp only [wOp,Sx,fW];cases val σ.e f <;> rfl
theorem fW_fn (g:Nat) (a args b:List PVal):fW C (.fn (.func g) a b) args σ K KP=CallX C g (a ++ (args ++ b)) σ K KP .mk:=rfl
end

/-! ### the steps of control, what follows behind a variable -/
theorem WC.rs {id:Nat} {l:List Oper} {y:Code} {σ:St} {Q:AEx→St→Prop} (h:∀ K:St→Prop,(∀ σ',WC C n y σ' Q→K σ')→H8 C n l l σ K (fun p σ'=>Q (.pan p) σ') .mk):WC C n (.seq (.region id l.toArray false) y) σ Q :=
 WC.seq (WC.region (h _ fun _ h=>h))
theorem WC.r1 {id:Nat} {l:List Oper} {σ:St} {Q:AEx→St→Prop} (h:H8 C n l l σ (Q .normal) (fun p σ'=>Q (.pan p) σ') .mk):WC C n (.region id l.toArray false) σ Q:=WC.region h
def Pz (id:Nat) (K:St→Prop) (Q:AEx→St→Prop):AEx→St→Prop
 | .normal,σ=>K σ
 | .exit i,σ=>if i=id then K σ else Q (.exit i) σ
 | x,σ=>Q x σ
theorem WC.bs {id:Nat} {c y:Code} {σ:St} {Q:AEx→St→Prop} (h:∀ K:St→Prop,(∀ σ',WC C n y σ' Q→K σ')→WC C n c σ (Pz id K Q)):WC C n (.seq (.block id c) y) σ Q:=by
 refine WC.seq (WC.block ((h _ fun _ h=>h).mono fun x σ hx=>?_))
 cases x with
 | normal=>exact hx
 | exit i =>
   simp only [Pz] at hx
   by_cases hi:i=id
   ·rw [if_pos hi] at hx;exact ⟨fun _=>hx,fun h=>absurd hi h⟩
   ·rw [if_neg hi] at hx;exact ⟨fun h=>absurd h hi,fun _=>hx⟩
 | ret=>exact hx
 | pan p=>exact hx
theorem WC.b1 {id:Nat} {c:Code} {σ:St} {Q:AEx→St→Prop} (h:WC C n c σ (Pz id (Q .normal) Q)):WC C n (.block id c) σ Q:=by
 refine WC.block (h.mono fun x σ hx=>?_)
 cases x with
 | normal=>exact hx
 | exit i =>
   simp only [Pz] at hx
   by_cases hi:i=id
   ·rw [if_pos hi] at hx;exact ⟨fun _=>hx,fun h=>absurd hi h⟩
   ·rw [if_neg hi] at hx;exact ⟨fun h=>absurd h hi,fun _=>hx⟩
 | ret=>exact hx
 | pan p=>exact hx
def seqQ (K:St→Prop) (Q:AEx→St→Prop):AEx→St→Prop:=Hd K Q
theorem Am {x y:Code} {σ:St} {Q:AEx→St→Prop} (h:∀ K:St→Prop,(∀ σ',WC C n y σ' Q→K σ')→WC C n x σ (Hd K Q)):WC C n (.seq x y) σ Q:=WC.seq (h _ fun _ h=>h)

/-! ### the equations, bundled -/
theorem blkAt_o (o l:List Blk) (j:Nat):Ao o l (.o j)=o[j]? := rfl
theorem blkAt_l (o l:List Blk) (j:Nat):Ao o l (.l j)=l[j]? := rfl
theorem setBlk_o (e:Env) (o l:List Blk) (d:List PDef) (j:Nat) (k:Blk):A1 ⟨e,o,l,d⟩ (.o j) k=⟨e,o.set j k,l,d⟩:=rfl
theorem setBlk_l (e:Env) (o l:List Blk) (d:List PDef) (j:Nat) (k:Blk):A1 ⟨e,o,l,d⟩ (.l j) k=⟨e,o,l.set j k,d⟩:=rfl
theorem Yw (e:Env) (o l:List Blk) (d:List PDef) (k:Blk):B8 ⟨e,o,l,d⟩ k=⟨e,o,l ++ [k],d⟩:=rfl
theorem cells_agg (cs:List PVal):(PVal.agg cs).cells=cs:=rfl
theorem cells_int (k:IntKind) (m:Int):(PVal.int k m).cells=[.int k m]:=rfl
theorem cells_str (s:List UInt8):(PVal.str s).cells=[.str s]:=rfl
theorem Zj (b:Bool):(PVal.bool b).cells=[.bool b]:=rfl
theorem cells_slc (s:List PVal):(PVal.slc s).cells=[.slc s]:=rfl
theorem Zh:PVal.nils.cells=[.nils]:=rfl
theorem Zi:PVal.nilp.cells=[.nilp]:=rfl
theorem cells_ptr (r:Ref) (i o:Nat):(PVal.ptr r i o).cells=[.ptr r i o]:=rfl
theorem cells_ref (r:Ref) (i o:Nat):(PVal.ref r i o).cells=[.ref r i o]:=rfl
theorem cells_fn (f:Fn) (a b:List PVal):(PVal.fn f a b).cells=[.fn f a b]:=rfl
theorem loadCs_t (m:Nat) (cs:List PVal) (off:Nat) (K:PVal→Prop):C6 true m cs off K=(off + m≤cs.length∧K (.agg ((cs.drop off).take m))):=rfl
theorem loadCs_f (m:Nat) (cs:List PVal) (off:Nat) (K:PVal→Prop):C6 false m cs off K=match cs[off]? with
  | some c=>K c
  | none=>False:=rfl
theorem EV :
  (∀ (C:Ctx) n (all:List Oper) (d:Option Nat) (op:Op) (ty:TypeId) (pos:String) (af:Array Edge) (os:List Oper) (σ:St) (K:St→Prop) (KP:PVal→St→Prop) u,
   H8 C n all ({ dst:=d,op:=op,type:=ty,pos:=pos,after:=af,guard:=none }::os) σ K KP u=Do C op σ (fun p σ'=>H8 C n all os (σ'.put n d p) K KP .mk) KP .mk) ∧
  (∀ (C:Ctx) n (all:List Oper) (σ:St) (K:St→Prop) (KP:PVal→St→Prop) u,H8 C n all [] σ K KP u=K σ) ∧
  (∀ (C:Ctx) n (all:List Oper) (d:Option Nat) (op:Op) (ty:TypeId) (pos:String) (af:Array Edge) (j:Nat) (want:Bool) (os:List Oper) (σ:St) (K:St→Prop) (KP:PVal→St→Prop) u,
   H8 C n all ({ dst:=d,op:=op,type:=ty,pos:=pos,after:=af,guard:=some (j,want) }::os) σ K KP u =
    gW (yld all σ.e j) want (Do C op σ (fun p σ'=>H8 C n all os (σ'.put n d p) K KP .mk) KP .mk) (H8 C n all os (σ.put n d (.tuple [])) K KP .mk) .mk) ∧
  (∀ A B u,gW (.bool true) true A B u=A)∧(∀ A B u,gW (.bool true) false A B u=B)∧(∀ A B u,gW (.bool false) true A B u=B)∧(∀ A B u,gW (.bool false) false A B u=A)∧(∀ want A B u,gW (.tuple []) want A B u=B)∧(∀ A B u,gP (.bool true) A B u=A)∧(∀ A B u,gP (.bool false) A B u=B) ∧
  (∀ i,gt [] i=.any)∧(∀ k v r i,gt ((k,v)::r) i=if k=i then v else gt r i) ∧
  (∀ e o l d n t p,St.put ⟨e,o,l,d⟩ n (some t) p=if t < n then ⟨(t,p)::e,o,l,d⟩ else ⟨e,o,l,d⟩)∧(∀ σ n p,St.put σ n none p=σ) ∧
  (∀ e t,val e (.tmp t)=gt e t)∧(∀ e f,val e (.func f)=.fn (.func f) [] [])∧(∀ e g,val e (.global g)=.gptr g 0)∧(∀ e k m,val e (.const (.int k m))=.int k m) ∧
  (∀ e b,val e (.const (.bool b))=.bool b)∧(∀ e (l:List UInt8),val e (.const (.string { data:=l.toArray }))=.str l)∧(∀ e,val e (.const (.slice none 0 0))=.nils) ∧
  (∀ e,val e (.const (.pointer none))=.nilp)∧(∀ e,val e (.const .nilIface)=.niliface) :=
 ⟨fun _ _ _ _ _ _ _ _ _ _ _ _ _=>rfl,fun _ _ _ _ _ _ _=>rfl,fun _ _ _ _ _ _ _ _ _ _ _ _ _ _ _=>rfl,gW_tt,gW_tf,gW_ft,gW_ff,gW_u,gP_t,gP_f,gt_nil,J5,Le,put_none,val_tmp,val_func,X5,val_int,val_bool,val_str,val_nils,val_nilp,Aa5⟩
theorem EO:(∀ C σ K KP x u,Do C (.move x) σ K KP u=K (val σ.e x) σ)∧(∀ C σ K KP x u,Do C (.assign x) σ K KP u=K (val σ.e x) σ) ∧
  (∀ C σ K KP c a b u,Do C (.pick c a b) σ K KP u=gP (val σ.e c) (K (val σ.e a) σ) (K (val σ.e b) σ) .mk) ∧
  (∀ C σ K KP e u,Do C (.alloc e) σ K KP u=Jb C e σ K)∧(∀ C σ K KP e x u,Do C (.box e x) σ K KP u=Ub e (val σ.e x) σ K) ∧
  (∀ C σ K KP t ps u,Do C (.build t ps) σ K KP u=Fp C t ps σ.e fun q=>K q σ)∧(∀ C σ K KP t m ps u,Do C (.buildSlice t m ps) σ K KP u=C7 C t m ps σ K) ∧
  (∀ C σ K KP t x y u,Do C (.makeSlice t x y) σ K KP u=Dz C t (val σ.e x) (val σ.e y) σ K)∧(∀ C σ K KP t x u,Do C (.load t x) σ K KP u=Ia C t (val σ.e x) σ fun q=>K q σ)∧(∀ C σ K KP t x y u,Do C (.store t x y) σ K KP u=Hi C t (val σ.e x) (val σ.e y) σ fun σ'=>K .any σ') ∧
  (∀ C σ K KP x u,Do C (.nilCheck x) σ K KP u=Da (val σ.e x) σ fun q=>K q σ) ∧
  (∀ C σ K KP op t ty x y u,Do C (.binOp op t x y ty) σ K KP u=Oi C op t x y (val σ.e x) (val σ.e y) σ fun q=>K q σ) ∧
  (∀ C σ K KP op t x u,Do C (.unOp op t x) σ K KP u=wUn op (val σ.e x) fun q=>K q σ)∧(∀ C σ K KP s d x u,Do C (.convert s d x) σ K KP u=Kr C s d (val σ.e x) σ K) ∧
  (∀ C σ K KP t x u,Do C (.makeInterface t x) σ K KP u=H9 C t (val σ.e x) fun q=>K q σ) ∧
  (∀ C σ K KP f (a b:List Operand) u,Do C (.makeFunc f a.toArray b.toArray) σ K KP u=K (.fn f (a.map (val σ.e)) (b.map (val σ.e))) σ) ∧
  (∀ C σ K KP t x lo hi u,Do C (.slice t x lo hi none) σ K KP u=Hj C t (val σ.e x) (lo.map (val σ.e)) (hi.map (val σ.e)) σ fun q=>K q σ) ∧
  (∀ C σ K KP s x f u,Do C (.fieldAddr s x f) σ K KP u=Cw C s (val σ.e x) f σ fun q=>K q σ)∧(∀ C σ K KP t x f u,Do C (.field t x f) σ K KP u=G1 C t (val σ.e x) f fun q=>K q σ) ∧
  (∀ C σ K KP t x i u,Do C (.indexAddr t x i) σ K KP u=Cv C t (val σ.e x) (val σ.e i) σ fun q=>K q σ) ∧
  (∀ C σ K KP t x i u,Do C (.index t x i) σ K KP u=G0 C t (val σ.e x) (val σ.e i) fun q=>K q σ)∧(∀ C σ K KP x i u,Do C (.extract x i) σ K KP u=D9 (val σ.e x) i fun q=>K q σ) ∧
  (∀ C σ K KP b (args:List Operand) (ts:List TypeId) u,Do C (.call { callee:=.builtin b,args:=args.toArray,argTypes:=ts.toArray }) σ K KP u=Cp C b ts.toArray (args.map (val σ.e)) σ K KP) ∧
  (∀ C σ K KP f (args:List Operand) (ts:List TypeId) u,Do C (.call { callee:=.value f,args:=args.toArray,argTypes:=ts.toArray }) σ K KP u=fW C (val σ.e f) (args.map (val σ.e)) σ K KP) ∧
  (∀ C σ K KP g a args b,fW C (.fn (.func g) a b) args σ K KP=CallX C g (a ++ (args ++ b)) σ K KP .mk) :=
 ⟨fun _ σ K KP a0 _=>wOp_move σ K KP a0,fun _ σ K KP a0 _=>Xx σ K KP a0,fun _ σ K KP a0 a1 a2 _=>wOp_pick σ K KP a0 a1 a2,fun _ σ K KP a0 _=>Aa0 σ K KP a0,fun _ σ K KP a0 a1 _=>wOp_box σ K KP a0 a1,fun _ σ K KP a0 a1 _=>Aay σ K KP a0 a1,fun _ σ K KP a0 a1 a2 _=>Qp σ K KP a0 a1 a2,fun _ σ K KP a0 a1 a2 _=>R7 σ K KP a0 a1 a2,fun _ σ K KP a0 a1 _=>wOp_load σ K KP a0 a1,fun _ σ K KP a0 a1 a2 _=>Aau σ K KP a0 a1 a2,fun _ σ K KP a0 _=>T0 σ K KP a0,fun _ σ K KP a0 a1 a2 a3 a4 _=>Aaz σ K KP a0 a1 a2 a3 a4,fun _ σ K KP a0 a1 a2 _=>wOp_unOp σ K KP a0 a1 a2,fun _ σ K KP a0 a1 a2 _=>Vt σ K KP a0 a1 a2,fun _ σ K KP a0 a1 _=>Nb σ K KP a0 a1,fun _ σ K KP a0 a1 a2 _=>T4 σ K KP a0 a1 a2,fun _ σ K KP a0 a1 a2 a3 _=>Aav σ K KP a0 a1 a2 a3,fun _ σ K KP a0 a1 a2 _=>R9 σ K KP a0 a1 a2,fun _ σ K KP a0 a1 a2 _=>Aax σ K KP a0 a1 a2,fun _ σ K KP a0 a1 a2 _=>R8 σ K KP a0 a1 a2,fun _ σ K KP a0 a1 a2 _=>Aaw σ K KP a0 a1 a2,fun _ σ K KP a0 a1 _=>Vs σ K KP a0 a1,fun _ σ K KP a0 a1 a2 _=>Vu σ K KP a0 a1 a2,fun _ σ K KP a0 a1 a2 _=>Aat σ K KP a0 a1 a2,fun _=>fW_fn⟩
theorem EB:(∀ (o l:List Blk) (j:Nat),Ao o l (.o j)=o[j]?)∧(∀ (o l:List Blk) (j:Nat),Ao o l (.l j)=l[j]?) ∧
  (∀ e o l d j k,A1 ⟨e,o,l,d⟩ (.o j) k=⟨e,o.set j k,l,d⟩)∧(∀ e o l d j k,A1 ⟨e,o,l,d⟩ (.l j) k=⟨e,o,l.set j k,d⟩)∧(∀ e o l d k,B8 ⟨e,o,l,d⟩ k=⟨e,o,l ++ [k],d⟩) ∧
  (∀ cs,(PVal.agg cs).cells=cs)∧(∀ k m,(PVal.int k m).cells=[.int k m])∧(∀ s,(PVal.str s).cells=[.str s])∧(∀ b,(PVal.bool b).cells=[.bool b])∧(∀ s,(PVal.slc s).cells=[.slc s]) ∧
  (PVal.nils.cells=[.nils])∧(PVal.nilp.cells=[.nilp])∧(∀ r i o,(PVal.ptr r i o).cells=[.ptr r i o])∧(∀ r i o,(PVal.ref r i o).cells=[.ref r i o])∧(∀ f a b,(PVal.fn f a b).cells=[.fn f a b]) ∧
  (∀ m cs off (K:PVal→Prop),C6 true m cs off K=(off + m≤cs.length∧K (.agg ((cs.drop off).take m)))) ∧
  (∀ m cs off (K:PVal→Prop),C6 false m cs off K=match cs[off]? with
   | some c=>K c
   | none=>False) :=
 ⟨blkAt_o,blkAt_l,setBlk_o,setBlk_l,Yw,cells_agg,cells_int,cells_str,Zj,cells_slc,Zh,Zi,cells_ptr,cells_ref,cells_fn,loadCs_t,loadCs_f⟩

theorem Rq {p:Prop} (h:p):p=True:=eq_true h
/-- What is closed. -/
theorem CL:(ClosedL []=True)∧(∀ p ps,ClosedL (p::ps)=(Closed p∧ClosedL ps))∧(Closed .any=True)∧(∀ b,Closed (.bool b)=True)∧(∀ k m,Closed (.int k m)=True)∧(∀ s,Closed (.str s)=True) ∧
  (Closed .nilp=True)∧(Closed .nils=True)∧(Closed .niliface=True)∧(Closed .nilfn=True)∧(Closed .nilmap=True)∧(∀ g o,Closed (.gptr g o)=True)∧(∀ cs,Closed (.agg cs)=ClosedL cs) ∧
  (∀ cs,Closed (.tuple cs)=ClosedL cs)∧(∀ cs,Closed (.slc cs)=ClosedL cs)∧(∀ t v,Closed (.iface t v)=Closed v)∧(∀ g a b,Closed (.fn g a b)=(ClosedL a∧ClosedL b))∧(∀ x o,Closed (.eptr x o)=Closed x):=by
 refine ⟨Rq .nil,fun p ps=>propext ⟨fun h=>?_,fun h=>.cons h.1 h.2⟩,Rq .any,fun b=>Rq (.bool b),fun k m=>Rq (.int k m),fun s=>Rq (.str s),Rq .nilp,Rq .nils,Rq .niliface,Rq .nilfn,Rq .nilmap,fun g o=>Rq (.gptr g o),
  fun cs=>propext ⟨fun h f=>?_,.agg⟩,fun cs=>propext ⟨fun h f=>?_,.tuple⟩,fun cs=>propext ⟨fun h f=>?_,.slc⟩,fun t v=>propext ⟨fun h f=>?_,.iface t⟩,fun g a b=>propext ⟨fun h=>⟨fun f=>?_,fun f=>?_⟩,fun h=>.fn g h.1 h.2⟩,fun x o=>propext ⟨fun h f=>?_,fun h=>.eptr h o⟩⟩
 ·constructor <;> intro f <;> have:=h f <;> simp only [Ba,List.cons.injEq] at this
  ·exact this.1
  ·exact this.2
 all_goals (have:=h f;simp only [ren] at this;injections)

/-- The end of a function that touches nothing. -/
theorem An {e:Env} {l:List Blk} {d:List PDef} {p q:PVal} (hq:Closed q) (h:p=q):EndsIn ⟨e,[],l,d⟩ p fun p st=>PRes.ret p=PRes.ret q∧st=[]:=by
 subst h
 exact EndsIn.plain hq (by simp) ⟨rfl,rfl⟩
end Go.V
set_option linter.defProp false
namespace Go.V
open Go

variable {C:Ctx} {n:Nat}

theorem wDr_nil (all:List Oper) (K:St→Prop) (KP:PVal→St→Prop) (pd:List Pd) (σ:St):wDr C n all K KP [] pd σ=K σ:=rfl
theorem wDr_q (all:List Oper) (K:St→Prop) (KP:PVal→St→Prop) (i:Nat) (nd:List Nat) (dd:Option Nat) (op:Op) (ty:TypeId) (pos:String) (af:Array Edge) (r:List (Pl × Oper)) (pd:List Pd) (σ:St) :
  wDr C n all K KP ((⟨i,0,false,nd⟩,{ dst:=dd,op:=op,type:=ty,pos:=pos,after:=af,guard:=none })::r) pd σ =
   wOp C op σ (fun p τ=>wDr C n all K KP r pd (τ.put n dd p)) (fun _ _=>False):=rfl
theorem wDr_qk (all:List Oper) (K:St→Prop) (KP:PVal→St→Prop) (i:Nat) (nd:List Nat) (dd:Option Nat) (op:Op) (ty:TypeId) (pos:String) (af:Array Edge) (r:List (Pl × Oper)) (pd:List Pd) (e:Env) (o l:List Blk) (d:List PDef) :
  wDr C n all K KP ((⟨i,0,true,nd⟩,{ dst:=dd,op:=op,type:=ty,pos:=pos,after:=af,guard:=none })::r) pd ⟨e,o,l,d⟩ =
   wOp C op ⟨e,o,l,d⟩ (fun p τ=>wDr C n all K KP r (⟨i,0,{ dst:=dd,op:=op,type:=ty,pos:=pos,after:=af,guard:=none },e,p⟩::pd) (τ.put n dd p)) (fun _ _=>False):=rfl
theorem wDr_qg (all:List Oper) (K:St→Prop) (KP:PVal→St→Prop) (i:Nat) (nd:List Nat) (dd:Option Nat) (op:Op) (ty:TypeId) (pos:String) (af:Array Edge) (j:Nat) (want:Bool) (r:List (Pl × Oper)) (pd:List Pd) (σ:St) :
  wDr C n all K KP ((⟨i,0,false,nd⟩,{ dst:=dd,op:=op,type:=ty,pos:=pos,after:=af,guard:=some (j,want) })::r) pd σ =
   gW (yld all σ.e j) want (wOp C op σ (fun p τ=>wDr C n all K KP r pd (τ.put n dd p)) (fun _ _=>False)) (wDr C n all K KP r pd (σ.put n dd (.tuple []))) .mk:=rfl
theorem wDr_l (all:List Oper) (K:St→Prop) (KP:PVal→St→Prop) (i:Nat) (kp:Bool) (nd:List Nat) (dd:Option Nat) (op:Op) (ty:TypeId) (pos:String) (af:Array Edge) (r:List (Pl × Oper)) (pd:List Pd) (σ:St) :
  wDr C n all K KP ((⟨i,1,kp,nd⟩,{ dst:=dd,op:=op,type:=ty,pos:=pos,after:=af,guard:=none })::r) pd σ =
   wOp C op σ (fun p τ=>obl C all nd pd τ∧wDr C n all K KP r pd (τ.put n dd p)) (fun p τ=>∀ e,KP p ⟨e,τ.o,τ.l,τ.d⟩):=rfl
/-- A literal that nobody writes. -/
def wZ (C:Ctx) (op:Op) (σ:St) (K:PVal→Prop):Prop:=Oc C op σ K
theorem wZ_slice (t m:Nat) (ps:Array (Nat × Operand)) (σ:St) (K:PVal→Prop):wZ C (.buildSlice t m ps) σ K=B7 C t m ps σ K:=rfl
theorem wZ_box (e:TypeId) (x:Operand) (σ:St) (K:PVal→Prop):wZ C (.box e x) σ K=Vy e (val σ.e x) K:=rfl
theorem Qq {op:Op} {σ:St} {K:PVal→Prop} (h:Oc C op σ K):∃ p,Oc C op σ (·=p)∧K p:=by
 revert h
 unfold Oc
 split
 ·unfold B7
  split
  ·exact fun h=>⟨_,⟨h.1,h.2.1,h.2.2.1,h.2.2.2.1,rfl⟩,h.2.2.2.2⟩
  ·exact fun h=>h.elim
 ·exact fun h=>⟨_,⟨h.1,rfl⟩,h.2⟩
 ·exact fun h=>h.elim
theorem Sw {op:Op} {σ:St} {K K':PVal→Prop} (hK:∀ q,K q→K' q) (h:Oc C op σ K):Oc C op σ K':=by
 unfold Oc at h ⊢
 split at h
 ·exact Nf hK h
 ·exact ⟨h.1,hK _ h.2⟩
 ·exact h
theorem wDr_z (all:List Oper) (K:St→Prop) (KP:PVal→St→Prop) (i:Nat) (nd:List Nat) (dd:Option Nat) (op:Op) (ty:TypeId) (pos:String) (af:Array Edge) (r:List (Pl × Oper)) (pd:List Pd) (σ:St) :
  wDr C n all K KP ((⟨i,2,false,nd⟩,{ dst:=dd,op:=op,type:=ty,pos:=pos,after:=af,guard:=none })::r) pd σ =
   wZ C op σ (fun p=>wDr C n all K KP r pd (σ.put n dd p)):=by
 have:wDr C n all K KP ((⟨i,2,false,nd⟩,{ dst:=dd,op:=op,type:=ty,pos:=pos,after:=af,guard:=none })::r) pd σ=∃ p,Oc C op σ (·=p)∧wDr C n all K KP r pd (σ.put n dd p):=rfl
 rw [this]
 exact propext ⟨fun ⟨p,h1,h2⟩=>Sw (K:=(·=p)) (fun q hq=>by rw [hq];exact h2) h1,fun h=>Qq h⟩
theorem wDr_c (all:List Oper) (K:St→Prop) (KP:PVal→St→Prop) (i:Nat) (nd:List Nat) (dd:Option Nat) (op:Op) (ty:TypeId) (pos:String) (af:Array Edge) (r:List (Pl × Oper)) (pd:List Pd) (σ:St) :
  wDr C n all K KP ((⟨i,3,false,nd⟩,{ dst:=dd,op:=op,type:=ty,pos:=pos,after:=af,guard:=none })::r) pd σ =
   ∃ p,wOp C op σ (fun q τ=>q=p∧τ=σ) (fun _ _=>False)∧wDr C n all K KP r pd (σ.put n dd p):=rfl
theorem obl_nil (all:List Oper) (nd:List Nat) (σ:St):obl C all nd [] σ=True:=rfl
theorem obl_cons (all:List Oper) (nd:List Nat) (k:Nat) (dd:Option Nat) (op:Op) (ty:TypeId) (pos:String) (af:Array Edge) (e:Env) (p:PVal) (r:List Pd) (σ:St) :
  obl C all nd (⟨k,0,{ dst:=dd,op:=op,type:=ty,pos:=pos,after:=af,guard:=none },e,p⟩::r) σ =
   ((Jg nd k=true→wOp C op ⟨e,σ.o,σ.l,σ.d⟩ (fun q τ=>q=p∧τ=⟨e,σ.o,σ.l,σ.d⟩) (fun _ _=>False))∧obl C all nd r σ):=rfl

inductive TagD (all:List Oper) (K:St→Prop) (KP:PVal→St→Prop) (r:List (Pl × Oper)) (pd:List Pd):Type where
 | mk
def Hk (C:Ctx) (n:Nat) (all:List Oper) (K:St→Prop) (KP:PVal→St→Prop) (r:List (Pl × Oper)) (pd:List Pd) (σ:St) (_:TagD all K KP r pd):Prop:=wDr C n all K KP r pd σ
inductive TagB (all:List Oper) (nd:List Nat) (pd:List Pd):Type where
 | mk
def Nr (C:Ctx) (all:List Oper) (nd:List Nat) (pd:List Pd) (σ:St) (_:TagB all nd pd):Prop:=obl C all nd pd σ

/-- The walk of a drawn region: bundled. -/
theorem ED:(∀ (C:Ctx) n (all:List Oper) K KP pd σ u,Hk C n all K KP [] pd σ u=K σ) ∧
  (∀ (C:Ctx) n (all:List Oper) (K:St→Prop) (KP:PVal→St→Prop) (i:Nat) (nd:List Nat) (dd:Option Nat) (op:Op) (ty:TypeId) (pos:String) (af:Array Edge) (r:List (Pl × Oper)) (pd:List Pd) (σ:St) u,
   Hk C n all K KP ((⟨i,0,false,nd⟩,{ dst:=dd,op:=op,type:=ty,pos:=pos,after:=af,guard:=none })::r) pd σ u=Do C op σ (fun p τ=>Hk C n all K KP r pd (τ.put n dd p) .mk) (fun _ _=>False) .mk) ∧
  (∀ (C:Ctx) n (all:List Oper) (K:St→Prop) (KP:PVal→St→Prop) (i:Nat) (nd:List Nat) (dd:Option Nat) (op:Op) (ty:TypeId) (pos:String) (af:Array Edge) (r:List (Pl × Oper)) (pd:List Pd) (e:Env) (o l:List Blk) (d:List PDef) u,
   Hk C n all K KP ((⟨i,0,true,nd⟩,{ dst:=dd,op:=op,type:=ty,pos:=pos,after:=af,guard:=none })::r) pd ⟨e,o,l,d⟩ u =
    Do C op ⟨e,o,l,d⟩ (fun p τ=>Hk C n all K KP r (⟨i,0,{ dst:=dd,op:=op,type:=ty,pos:=pos,after:=af,guard:=none },e,p⟩::pd) (τ.put n dd p) .mk) (fun _ _=>False) .mk) ∧
  (∀ (C:Ctx) n (all:List Oper) (K:St→Prop) (KP:PVal→St→Prop) (i:Nat) (nd:List Nat) (dd:Option Nat) (op:Op) (ty:TypeId) (pos:String) (af:Array Edge) (j:Nat) (want:Bool) (r:List (Pl × Oper)) (pd:List Pd) (σ:St) u,
   Hk C n all K KP ((⟨i,0,false,nd⟩,{ dst:=dd,op:=op,type:=ty,pos:=pos,after:=af,guard:=some (j,want) })::r) pd σ u =
    gW (yld all σ.e j) want (Do C op σ (fun p τ=>Hk C n all K KP r pd (τ.put n dd p) .mk) (fun _ _=>False) .mk) (Hk C n all K KP r pd (σ.put n dd (.tuple [])) .mk) .mk) ∧
  (∀ (C:Ctx) n (all:List Oper) (K:St→Prop) (KP:PVal→St→Prop) (i:Nat) (kp:Bool) (nd:List Nat) (dd:Option Nat) (op:Op) (ty:TypeId) (pos:String) (af:Array Edge) (r:List (Pl × Oper)) (pd:List Pd) (σ:St) u,
   Hk C n all K KP ((⟨i,1,kp,nd⟩,{ dst:=dd,op:=op,type:=ty,pos:=pos,after:=af,guard:=none })::r) pd σ u =
    Do C op σ (fun p τ=>Nr C all nd pd τ .mk∧Hk C n all K KP r pd (τ.put n dd p) .mk) (fun p τ=>∀ e,KP p ⟨e,τ.o,τ.l,τ.d⟩) .mk) ∧
  (∀ (C:Ctx) t m ps σ K,wZ C (.buildSlice t m ps) σ K=B7 C t m ps σ K)∧(∀ (C:Ctx) e x σ K,wZ C (.box e x) σ K=Vy e (val σ.e x) K) ∧
  (∀ (C:Ctx) n (all:List Oper) (K:St→Prop) (KP:PVal→St→Prop) (i:Nat) (nd:List Nat) (dd:Option Nat) (op:Op) (ty:TypeId) (pos:String) (af:Array Edge) (r:List (Pl × Oper)) (pd:List Pd) (σ:St) u,
   Hk C n all K KP ((⟨i,2,false,nd⟩,{ dst:=dd,op:=op,type:=ty,pos:=pos,after:=af,guard:=none })::r) pd σ u=wZ C op σ (fun p=>Hk C n all K KP r pd (σ.put n dd p) .mk)) ∧
  (∀ (C:Ctx) n (all:List Oper) (K:St→Prop) (KP:PVal→St→Prop) (i:Nat) (nd:List Nat) (dd:Option Nat) (op:Op) (ty:TypeId) (pos:String) (af:Array Edge) (r:List (Pl × Oper)) (pd:List Pd) (σ:St) u,
   Hk C n all K KP ((⟨i,3,false,nd⟩,{ dst:=dd,op:=op,type:=ty,pos:=pos,after:=af,guard:=none })::r) pd σ u=∃ p,Do C op σ (fun q τ=>q=p∧τ=σ) (fun _ _=>False) .mk∧Hk C n all K KP r pd (σ.put n dd p) .mk) ∧
  (∀ (C:Ctx) all nd σ u,Nr C all nd [] σ u=True) ∧
  (∀ (C:Ctx) (all:List Oper) (nd:List Nat) (k:Nat) (dd:Option Nat) (op:Op) (ty:TypeId) (pos:String) (af:Array Edge) (e:Env) (p:PVal) (r:List Pd) (σ:St) u,
   Nr C all nd (⟨k,0,{ dst:=dd,op:=op,type:=ty,pos:=pos,after:=af,guard:=none },e,p⟩::r) σ u =
    ((Jg nd k=true→Do C op ⟨e,σ.o,σ.l,σ.d⟩ (fun q τ=>q=p∧τ=⟨e,σ.o,σ.l,σ.d⟩) (fun _ _=>False) .mk)∧Nr C all nd r σ .mk)) ∧
  (∀ k,Jg [] k=false)∧(∀ a r k,Jg (a::r) k=if a=k then true else Jg r k) :=
 ⟨fun _ _ _ _ _ _ _ _=>rfl,fun _ _ _ _ _ _ _ _ _ _ _ _ _ _ _ _=>rfl,fun _ _ _ _ _ _ _ _ _ _ _ _ _ _ _ _ _ _ _=>rfl,fun _ _ _ _ _ _ _ _ _ _ _ _ _ _ _ _ _ _=>rfl,fun _ _ _ _ _ _ _ _ _ _ _ _ _ _ _ _ _=>rfl,fun _=>wZ_slice,fun _=>wZ_box,
  fun _ _ all K KP i nd dd op ty pos af r pd σ _=>wDr_z all K KP i nd dd op ty pos af r pd σ,fun _ _ _ _ _ _ _ _ _ _ _ _ _ _ _ _=>rfl,fun _ _ _ _ _=>rfl,fun _ _ _ _ _ _ _ _ _ _ _ _ _ _=>rfl,Xe,Tl⟩
theorem EPl:(∀ all,Gh all []=[])∧(∀ all x r,Gh all (x::r)=match all[x.i]? with
  | some o=>(x,o)::Gh all r
  | none=>[]):=⟨fun _=>rfl,fun _ _ _=>rfl⟩

/-- The operations, undone one layer at a time (to be used before the parts are looked at). -/
theorem EW :
  (∀ (C:Ctx) t p q σ (K:PVal→St→Prop),Dz C t p q σ K=match p,q with
   | .int _ l,.int _ c=>match slq C.P t with
     | some (e,n,by')=>match tz C.P e with
       | some z=>0 < n∧0≤l∧l≤c∧c.toNat * n≤16777216∧(by':Int) * c≤281474976710656∧c≤9223372036854775807 ∧
         K (.ref (.l σ.l.length) 0 l.toNat) (B8 σ (.row (List.replicate l.toNat z) n e))
       | none=>False
     | none=>False
   | _,_=>False) ∧
  (∀ (C:Ctx) t p σ (K:PVal→Prop),Ia C t p σ K=match tyq C.P t with
   | none=>False
   | some (ag,n)=>match p with
     | .ptr r i off=>match Ao σ.o σ.l r with
       | some (.row elems _ _)=>match elems[i]? with
         | some x=>C6 ag n x.cells off K
         | none=>False
       | _=>False
     | .eptr x off=>C6 ag n x.cells off K
     | .gptr g off=>match C.G g with
       | some cs=>C6 ag n cs off K
       | none=>False
     | _=>False) ∧
  (∀ (C:Ctx) t p v σ (K:St→Prop),Hi C t p v σ K=match tyq C.P t with
   | none=>False
   | some (_,n)=>v.solid=true∧v.cells.length=n∧match p with
     | .ptr r i off=>match Ao σ.o σ.l r with
       | some (.row elems size ty)=>match elems[i]? with
         | some x=>Rf x off v fun y=>K (A1 σ r (.row (elems.set i y) size ty))
         | none=>False
       | _=>False
     | _=>False) ∧
  (∀ p σ (K:PVal→Prop),Da p σ K=match p with
   | .ptr r i o=>match Ao σ.o σ.l r with
     | some (.row _ _ _)=>K (.ptr r i o)
     | some (.iter _ _)=>K (.ptr r i o)
     | _=>False
   | .eptr x o=>K (.eptr x o)
   | .gptr g o=>K (.gptr g o)
   | .iface t v=>K (.iface t v)
   | .fn (.func f) a b=>K (.fn (.func f) a b)
   | _=>False) ∧
  (∀ (C:Ctx) s p f σ (K:PVal→Prop),Cw C s p f σ K=match fq C.P s f with
   | some (off,_,n)=>0 < n∧match p with
     | .ptr r i o=>match Ao σ.o σ.l r with
       | some (.row _ _ _)=>K (.ptr r i (o + off))
       | _=>False
     | .eptr x o=>K (.eptr x (o + off))
     | .gptr g o=>K (.gptr g (o + off))
     | _=>False
   | none=>False) ∧
  (∀ (C:Ctx) t p f (K:PVal→Prop),G1 C t p f K=match fq C.P t f with
   | some (off,ag,n)=>match p with
     | .agg cs=>C6 ag n cs off K
     | _=>False
   | none=>False) ∧
  (∀ (C:Ctx) t p ix σ (K:PVal→Prop),Cv C t p ix σ K=match ix with
   | .int _ i=>match p with
     | .ref r off len=>match slq C.P t,Ao σ.o σ.l r with
       | some (_,n,_),some (.row _ size _)=>n=size∧0≤i∧i < len∧K (.ptr r (off + i.toNat) 0)
       | _,_=>False
     | .slc xs=>match slq C.P t with
       | some (_,n,_)=>0≤i∧i < xs.length∧(gi xs i.toNat).cells.length=n∧K (.eptr (gi xs i.toNat) 0)
       | none=>False
     | .gptr g off=>match aq C.P t with
       | some (n,e)=>match tyq C.P e with
         | some (_,m)=>0≤i∧i < n∧K (.gptr g (off + i.toNat * m))
         | none=>False
       | none=>False
     | _=>False
   | _=>False) ∧
  (∀ (C:Ctx) t p ix (K:PVal→Prop),G0 C t p ix K=match ix with
   | .int _ i=>match p with
     | .str s=>(C.P.underlying t=some .string)∧0≤i∧i < s.length∧K (.int .u8 (gb s i.toNat))
     | .agg cs=>match aq C.P t with
       | some (n,e)=>match tyq C.P e with
         | some (ag,m)=>0≤i∧i < n∧C6 ag m cs (i.toNat * m) K
         | none=>False
       | none=>False
     | _=>False
   | _=>False) ∧
  (∀ (C:Ctx) t p lo hi σ (K:PVal→Prop),Hj C t p lo hi σ K=match p with
   | .str s=>C.P.underlying t=some .string∧match bnd lo 0,bnd hi s.length with
     | some l,some h=>0≤l∧l≤h∧h≤s.length∧K (.str ((s.drop l.toNat).take (h.toNat - l.toNat)))
     | _,_=>False
   | .slc xs=>match slq C.P t,bnd lo 0,bnd hi xs.length with
     | some (_,n,_),some l,some h=>0≤l∧l≤h∧h≤xs.length∧(∀ x∈xs,x.cells.length=n)∧K (.slc ((xs.drop l.toNat).take (h.toNat - l.toNat)))
     | _,_,_=>False
   | .ref r off len=>match slq C.P t,bnd lo 0,bnd hi len,Ao σ.o σ.l r with
     | some (_,n,_),some l,some h,some (.row _ size _)=>n=size∧0≤l∧l≤h∧h≤len∧K (.ref r (off + l.toNat) (h.toNat - l.toNat))
     | _,_,_,_=>False
   | .nils=>match slq C.P t,bnd lo 0,bnd hi 0 with
     | some _,some l,some h=>l=0∧h=0∧K .nils
     | _,_,_=>False
   | _=>False) ∧
  (∀ (C:Ctx) op t x y p q σ (K:PVal→Prop),Oi C op t x y p q σ K=match p,q with
   | .int k a,.int k' b=>Ht op k a k' b K
   | .str a,.str b=>Qm op a b K
   | .bool a,.bool b=>C.P.underlying t=some .bool∧Hu op (decide (a=b)) K
   | .agg xs,.agg ys=>match feq C.P t,eqL xs ys with
     | some ks,some b=>ks=xs.map J3∧Hu op b K
     | _,_=>False
   | .niliface,.niliface=>ifq C.P t=true∧(isC x || isC y)=true∧Hu op true K
   | .iface _ _,.niliface=>ifq C.P t=true∧Hu op false K
   | .nilp,.nilp=>ptq C.P t=true∧Hu op true K
   | .ptr r _ _,.nilp=>ptq C.P t=true∧(match Ao σ.o σ.l r with | some .dead=>False | none=>False | _=>True)∧Hu op false K
   | _,_=>False) ∧
  (∀ op p (K:PVal→Prop),wUn op p K=match op,p with
   | .neg,.int k n=>K (.int k (k.wrap (0 - n)))
   | .not,.bool b=>K (.bool (!b))
   | .xor,.int k n=>K (.int k (Go.bits .xor k (if k.signed then -1 else k.max) n))
   | _,_=>False) ∧
  (∀ (C:Ctx) t p (K:PVal→Prop),H9 C t p K=(ccq C.P t=true∧K (.iface t p))) ∧
  (∀ p i (K:PVal→Prop),D9 p i K=match p with
   | .tuple ps=>match ps[i]? with
     | some q=>K q
     | none=>False
   | _=>False) ∧
  (∀ (C:Ctx) e σ (K:PVal→St→Prop),Jb C e σ K=match tz C.P e with
   | some z=>Ub e z σ K
   | none=>False) ∧
  (∀ e p σ (K:PVal→St→Prop),Ub e p σ K=(p.solid=true∧K (.ptr (.l σ.l.length) 0 0) (B8 σ (.row [p] p.cells.length e)))) ∧
  (∀ e p (K:PVal→Prop),Vy e p K=(p.solid=true∧K (.eptr p 0))) ∧
  (∀ (C:Ctx) t (l:List (Nat × Operand)) e (K:PVal→Prop),Fp C t l.toArray e K=match bq C.P t with
   | some (zs,pl)=>Eh (fun i=>pl[i]?) e zs l fun cs=>K (.agg cs)
   | none=>match abq C.P t with
     | some (zs,n)=>Eh (fun i=>some (i * n,n)) e zs l fun cs=>K (.agg cs)
     | none=>False) ∧
  (∀ place e zs (K:List PVal→Prop),Eh place e zs [] K=K zs) ∧
  (∀ (place:Nat→Option (Nat × Nat)) e zs i x r (K:List PVal→Prop),Eh place e zs ((i,x)::r) K=match place i with
   | some (off,n)=>(val e x).solid=true∧(val e x).cells.length=n∧off + n≤zs.length∧Eh place e (Hl zs off (val e x).cells) r K
   | none=>False) ∧
  (∀ (C:Ctx) t len (l:List (Nat × Operand)) σ (K:PVal→St→Prop),C7 C t len l.toArray σ K=match slq C.P t,Kk 0 l with
   | some (e,n,_),some xs=>xs.length=len∧len * n≤16777216∧0 < n∧G9 n (xs.map (val σ.e))∧K (.ref (.l σ.l.length) 0 len) (B8 σ (.row (xs.map (val σ.e)) n e))
   | _,_=>False) ∧
  (∀ (C:Ctx) t len (l:List (Nat × Operand)) σ (K:PVal→Prop),B7 C t len l.toArray σ K=match slq C.P t,Kk 0 l with
   | some (_,n,_),some xs=>xs.length=len∧len * n≤16777216∧0 < n∧G9 n (xs.map (val σ.e))∧K (.slc (xs.map (val σ.e)))
   | _,_=>False) ∧
  (∀ (C:Ctx) (ts:List TypeId) asx σ (K KP:PVal→St→Prop),Cp C .len ts.toArray asx σ K KP=match asx,ts with
   | [p],[t]=>(match p with | .ref r _ _=>(match Ao σ.o σ.l r with | some (.row _ _ _)=>True | _=>False) | _=>True)∧Qs C t p fun q=>K q σ
   | _,_=>False) ∧
  (∀ (C:Ctx) (ts:List TypeId) asx σ (K KP:PVal→St→Prop),Cp C .append ts.toArray asx σ K KP=match asx,ts with
   | [p,q],[t,tx]=>Ga C t tx p q σ K
   | _,_=>False) ∧
  (∀ (C:Ctx) t tx p q σ (K:PVal→St→Prop),Ga C t tx p q σ K=match slq C.P t,Nh C tx q σ with
   | some _,some []=>match p with
     | .nils=>K .nils σ
     | .ref r off len=>match Ao σ.o σ.l r with
       | some (.row _ _ _)=>K (.ref r off len) σ
       | _=>False
     | _=>False
   | some (e,n,by'),some (y0::ys)=>0 < n∧0 < (y0::ys).length∧(∀ y∈y0::ys,y.cells.length=n)∧match p with
     | .nils=>(y0::ys).length * by'≤140737488355328∧(y0::ys).length≤9223372036854775807∧K (.ref (.l σ.l.length) 0 (y0::ys).length) (B8 σ (.row (y0::ys) n e))
     | .ref r off len=>match Ao σ.o σ.l r with
       | some (.row elems size ty)=>size=n∧ty=e∧off + len=elems.length∧(len + (y0::ys).length) * by'≤140737488355328∧len + (y0::ys).length≤9223372036854775807 ∧
         K (.ref (.l σ.l.length) 0 (len + (y0::ys).length)) (B8 (A1 σ r .dead) (.row (elems.drop off ++ (y0::ys)) n e))
       | _=>False
     | _=>False
   | _,_=>False) ∧
  (∀ (C:Ctx) tx q σ,Nh C tx q σ=match q with
   | .slc ys=>if (slq C.P tx).isSome then some ys else none
   | .nils=>if (slq C.P tx).isSome then some [] else none
   | .ref r off len=>match Ao σ.o σ.l r with
     | some (.row elems _ _)=>if (slq C.P tx).isSome && decide (off + len≤elems.length) then some ((elems.drop off).take len) else none
     | _=>none
   | _=>none) ∧
  (∀ (C:Ctx) t p (K:PVal→Prop),Qs C t p K=match p with
   | .str s=>C.P.underlying t=some .string∧K (.int .i64 s.length)
   | .slc xs=>(slq C.P t).isSome=true∧K (.int .i64 xs.length)
   | .ref _ _ n=>(slq C.P t).isSome=true∧K (.int .i64 n)
   | .nils=>(slq C.P t).isSome=true∧K (.int .i64 0)
   | .agg _=>match aq C.P t with
     | some (n,_)=>K (.int .i64 n)
     | none=>False
   | _=>False) ∧
  (∀ (C:Ctx) s d p σ (K:PVal→St→Prop),Kr C s d p σ K=match p with
   | .int _ n=>match inq C.P s,inq C.P d with
     | some _,some k=>K (.int k (k.wrap n)) σ
     | _,_=>False
   | .str x=>C.P.underlying s=some .string∧C.P.underlying d=some .string∧K (.str x) σ
   | .slc xs=>byq C.P s=true∧C.P.underlying d=some .string∧match N6 xs with
     | some bs=>K (.str bs) σ
     | none=>False
   | _=>False) :=
 ⟨fun _ _ _ _ _ _=>rfl,fun _ _ _ _ _=>rfl,fun _ _ _ _ _ _=>rfl,fun _ _ _=>rfl,fun _ _ _ _ _ _=>rfl,fun _ _ _ _ _=>rfl,fun _ _ _ _ _ _=>rfl,fun _ _ _ _ _=>rfl,fun _ _ _ _ _ _ _=>rfl,fun _ _ _ _ _ _ _ _ _=>rfl,
  fun _ _ _=>rfl,fun _ _ _ _=>rfl,fun _ _ _=>rfl,fun _ _ _ _=>rfl,fun _ _ _ _=>rfl,fun _ _ _=>rfl,fun _ _ _ _ _=>rfl,fun _ _ _ _=>rfl,fun _ _ _ _ _ _ _=>rfl,fun _ _ _ _ _ _=>rfl,fun _ _ _ _ _ _=>rfl,
  fun _ ts asx _ _ _=>(by unfold Cp;rfl),fun _ ts asx _ _ _=>(by unfold Cp;rfl),fun _ _ _ _ _ _ _=>rfl,fun _ _ _ _=>rfl,fun _ _ _ _=>rfl,fun _ _ _ _ _ _=>rfl⟩

/-- Numbers, strings: each operator. -/
theorem EI :
  (∀ k a k' b (K:PVal→Prop),Ht .add k a k' b K=(k=k'∧K (.int k (k.wrap (a + b)))))∧(∀ k a k' b (K:PVal→Prop),Ht .sub k a k' b K=(k=k'∧K (.int k (k.wrap (a - b))))) ∧
  (∀ k a k' b (K:PVal→Prop),Ht .mul k a k' b K=(k=k'∧K (.int k (k.wrap (a * b)))))∧(∀ k a k' b (K:PVal→Prop),Ht .quo k a k' b K=(k=k'∧b≠0∧K (.int k (k.wrap (a.tdiv b))))) ∧
  (∀ k a k' b (K:PVal→Prop),Ht .rem k a k' b K=(k=k'∧b≠0∧K (.int k (a.tmod b)))) ∧
  (∀ k a k' b (K:PVal→Prop),Ht .eql k a k' b K=(k=k'∧K (.bool (decide (a=b)))))∧(∀ k a k' b (K:PVal→Prop),Ht .neq k a k' b K=(k=k'∧K (.bool (!decide (a=b))))) ∧
  (∀ k a k' b (K:PVal→Prop),Ht .lss k a k' b K=(k=k'∧K (.bool (decide (a < b)))))∧(∀ k a k' b (K:PVal→Prop),Ht .leq k a k' b K=(k=k'∧K (.bool (decide (a≤b))))) ∧
  (∀ k a k' b (K:PVal→Prop),Ht .gtr k a k' b K=(k=k'∧K (.bool (decide (b < a)))))∧(∀ k a k' b (K:PVal→Prop),Ht .geq k a k' b K=(k=k'∧K (.bool (decide (b≤a))))) ∧
  (∀ k a k' b (K:PVal→Prop),Ht .and k a k' b K=(k=k'∧K (.int k (Go.bits .and k a b))))∧(∀ k a k' b (K:PVal→Prop),Ht .or k a k' b K=(k=k'∧K (.int k (Go.bits .or k a b)))) ∧
  (∀ k a k' b (K:PVal→Prop),Ht .xor k a k' b K=(k=k'∧K (.int k (Go.bits .xor k a b))))∧(∀ k a k' b (K:PVal→Prop),Ht .shl k a k' b K=(0≤b∧K (.int k (k.wrap (a * 2 ^ min b.toNat k.bits))))) ∧
  (∀ k a k' b (K:PVal→Prop),Ht .shr k a k' b K=(0≤b∧K (.int k (a.fdiv (2 ^ min b.toNat k.bits))))) ∧
  (∀ a b (K:PVal→Prop),Qm .add a b K=(a.length + b.length≤9223372036854775807∧K (.str (a ++ b))))∧(∀ a b (K:PVal→Prop),Qm .eql a b K=K (.bool (decide (a=b))))∧(∀ a b (K:PVal→Prop),Qm .neq a b K=K (.bool (!decide (a=b)))) ∧
  (∀ b (K:PVal→Prop),Hu .eql b K=K (.bool b))∧(∀ b (K:PVal→Prop),Hu .neq b K=K (.bool (!b))) :=
 ⟨fun _ _ _ _ _=>rfl,fun _ _ _ _ _=>rfl,fun _ _ _ _ _=>rfl,fun _ _ _ _ _=>rfl,fun _ _ _ _ _=>rfl,fun _ _ _ _ _=>rfl,fun _ _ _ _ _=>rfl,fun _ _ _ _ _=>rfl,fun _ _ _ _ _=>rfl,fun _ _ _ _ _=>rfl,fun _ _ _ _ _=>rfl,fun _ _ _ _ _=>rfl,fun _ _ _ _ _=>rfl,fun _ _ _ _ _=>rfl,fun _ _ _ _ _=>rfl,
  fun _ _ _ _ _=>rfl,fun _ _ _=>rfl,fun _ _ _=>rfl,fun _ _ _=>rfl,fun _ _=>rfl,fun _ _=>rfl⟩

/-- What a value may be stored asx; cells put in the place of cells. -/
theorem EP:(∀ k m,(PVal.int k m).solid=true)∧(∀ s,(PVal.str s).solid=true)∧(∀ b,(PVal.bool b).solid=true)∧(∀ cs,(PVal.agg cs).solid=true)∧(∀ cs,(PVal.slc cs).solid=true)∧(∀ r i o,(PVal.ptr r i o).solid=true) ∧
  (∀ r i o,(PVal.ref r i o).solid=true)∧(PVal.nils.solid=true)∧(PVal.nilp.solid=true)∧(∀ x o,(PVal.eptr x o).solid=true)∧(∀ f a b,(PVal.fn f a b).solid=true)∧(∀ t v,(PVal.iface t v).solid=true)∧(PVal.niliface.solid=true) ∧
  (∀ cs off v (K:PVal→Prop),Rf (.agg cs) off v K=(off + v.cells.length≤cs.length∧K (.agg (Hl cs off v.cells)))) ∧
  (∀ k m off k' m' (K:PVal→Prop),Rf (.int k m) off (.int k' m') K=(off=0∧K (.int k' m')))∧(∀ m off m' (K:PVal→Prop),Rf (.bool m) off (.bool m') K=(off=0∧K (.bool m'))) ∧
  (∀ m off m' (K:PVal→Prop),Rf (.str m) off (.str m') K=(off=0∧K (.str m'))) ∧
  (∀ cs off vs,Hl cs off vs=cs.take off ++ vs ++ cs.drop (off + vs.length)) ∧
  (∀ n,G9 n []=True)∧(∀ n p r,G9 n (p::r)=(p.solid=true∧p.cells.length=n∧G9 n r)) ∧
  (∀ i,Kk i []=some [])∧(∀ i j x r,Kk i ((j,x)::r)=if i=j then (Kk (i + 1) r).map (x::·) else none) ∧
  (∀ d,bnd none d=some (d:Int))∧(∀ d k i,bnd (some (.int k i)) d=some i)∧(∀ f t v,(PVal.iface t v).cells=[.iface t v]∧(PVal.fn f [] []).cells=[.fn f [] []]) :=
 ⟨fun _ _=>rfl,fun _=>rfl,fun _=>rfl,fun _=>rfl,fun _=>rfl,fun _ _ _=>rfl,fun _ _ _=>rfl,rfl,rfl,fun _ _=>rfl,fun _ _ _=>rfl,fun _ _=>rfl,rfl,fun _ _ _ _=>rfl,fun _ _ _ _ _ _=>rfl,fun _ _ _ _=>rfl,fun _ _ _ _=>rfl,fun _ _ _=>rfl,
  fun _=>rfl,fun _ _ _=>rfl,fun _=>rfl,fun i j x r=>by
   simp only [Kk]
   cases h:Nat.beq i j with
   | true=>rw [if_pos (Nat.eq_of_beq_eq_true h)];rfl
   | false=>rw [if_neg (fun e=>by subst e;simp at h)];rfl,fun _=>rfl,fun _ _ _=>rfl,fun _ _ _=>⟨rfl,rfl⟩⟩

/-- Lists that are written out. -/
theorem EL:(∀ {α:Type} (a:α) (l:List α),(a::l)[0]? = some a)∧(∀ {α:Type} (a:α) (l:List α) (i:Nat),(a::l)[i + 1]? = l[i]?)∧(∀ {α:Type} (i:Nat),([]:List α)[i]? = none)∧(∀ {α:Type} (a:α) (l:List α),(a::l).length=l.length + 1)∧(∀ {α:Type},([]:List α).length=0) ∧
  (∀ {α:Type} (a:α) (l:List α) (i:Nat),(a::l).take (i + 1)=a::l.take i)∧(∀ {α:Type} (l:List α),l.take 0=[])∧(∀ {α:Type} (i:Nat),([]:List α).take i=[]) ∧
  (∀ {α:Type} (a:α) (l:List α) (i:Nat),(a::l).drop (i + 1)=l.drop i)∧(∀ {α:Type} (l:List α),l.drop 0=l)∧(∀ {α:Type} (i:Nat),([]:List α).drop i=[]) ∧
  (∀ {α:Type} (l:List α),[] ++ l=l)∧(∀ {α:Type} (a:α) (l r:List α),(a::l) ++ r=a::(l ++ r))∧(∀ {α:Type} (l:List α),l ++ []=l) ∧
  (∀ {α:Type} (a b:α) (l:List α),(a::l).set 0 b=b::l)∧(∀ {α:Type} (a b:α) (l:List α) (i:Nat),(a::l).set (i + 1) b=a::l.set i b) ∧
  (∀ {α β:Type} (f:α→β),[].map f=[])∧(∀ {α β:Type} (f:α→β) (a:α) (l:List α),(a::l).map f=f a::l.map f) ∧
  (∀ {α β:Type} (f:α→β),Option.map f none=none)∧(∀ {α β:Type} (f:α→β) (a:α),Option.map f (some a)=some (f a)) ∧
  (∀ p:Prop,(True∧p)=p)∧(∀ p:Prop,(p∧True)=p)∧(∀ {α:Type} (a:α),(some a).isSome=true)∧(∀ {α:Sort 1} (a:α),(a=a)=True)∧(∀ p:Prop,(True→p)=p)∧((∀ p:Prop,(False→p)=True))∧(((0:Nat):Int)=0)∧(((1:Nat):Int)=1)∧(∀ n:Nat,(0≤n)=True)∧(∀ n:Nat,((n:Int)).toNat=n) ∧
  (∀ r b,eqC (.bool r) (.bool b)=some (decide (r=b)))∧(∀ i o,eqC (.int .i64 i) (.int .i64 o)=some (decide (i=o)))∧(∀ s t,eqC (.str s) (.str t)=some (decide (s=t)))∧(eqL [] []=some true) ∧
  (∀ x xs y ys,eqL (x::xs) (y::ys)=match eqC x y,eqL xs ys with
   | some a,some b=>some (a && b)
   | _,_=>none)∧(∀ k m,J3 (.int k m)=1)∧(∀ b,J3 (.bool b)=2)∧(∀ s,J3 (.str s)=3) :=
 ⟨by simp,by simp,by simp,by simp,by simp,by simp,by simp,by simp,by simp,by simp,by simp,by simp,by simp,by simp,by simp,by simp,by simp,by simp,by simp,by simp,by simp,by simp,by simp,by simp,by simp,by simp,by simp,by simp,by simp,by simp,
  fun r b=>rfl,fun i o=>(by simp [eqC]),fun _ _=>rfl,rfl,fun _ _ _ _=>rfl,fun _ _=>rfl,fun _=>rfl,fun _=>rfl⟩

/-- Of bools, and of what all elements of a list are. -/
theorem ES:(∀ h:Decidable True,@decide True h=true)∧(∀ h:Decidable False,@decide False h=false)∧(∀ (p:PVal→Prop) (a:PVal) (l:List PVal),(∀ x,x∈a::l→p x)=(p a∧∀ x,x∈l→p x)) ∧
  (∀ a:PVal,(a∈([]:List PVal))=False)∧(∀ p:Prop,(False→p)=True)∧(∀ α:Type,(α→True)=True)∧(∀ p:Prop,(p→True)=True)∧(∀ b,(b && true)=b)∧(∀ b,(true && b)=b)∧(∀ p:Prop,(p∧p)=p) ∧
  (∀ n:Nat,n - 0=n)∧(∀ n:Nat,0 + n=n)∧(∀ n:Nat,n + 0=n) :=
 ⟨fun _=>by simp,fun _=>by simp,fun _ _ _=>by simp,fun _=>by simp,fun _=>by simp,fun _=>by simp,fun _=>by simp,fun _=>by simp,fun _=>by simp,fun _=>by simp,fun _=>rfl,Nat.zero_add,fun _=>rfl⟩

theorem WC.ds {id:Nat} {l:List Oper} {y:Code} {σ:St} {Q:AEx→St→Prop} (plan:List Pl) (rows:List Nat) (hm:C.P.follows .mixedOrders=true) (hB:Tq l.toArray plan rows=true)
  {r:List (Pl × Oper)} (hr:Gh l plan=r) (h:∀ K:St→Prop,(∀ σ',WC C n y σ' Q→K σ')→Hk C n l K (fun p σ'=>Q (.pan p) σ') r [] σ .mk):WC C n (.seq (.region id l.toArray true) y) σ Q :=
 by subst hr;exact WC.seq (WC.draw plan rows hm hB (h _ fun _ h=>h))
theorem WC.d1 {id:Nat} {l:List Oper} {σ:St} {Q:AEx→St→Prop} (plan:List Pl) (rows:List Nat) (hm:C.P.follows .mixedOrders=true) (hB:Tq l.toArray plan rows=true)
  {r:List (Pl × Oper)} (hr:Gh l plan=r) (h:Hk C n l (Q .normal) (fun p σ'=>Q (.pan p) σ') r [] σ .mk):WC C n (.region id l.toArray true) σ Q:=by subst hr;exact WC.draw plan rows hm hB h

/-- What is asked for no more is forgotten. -/
def Ix (keep:List Nat):Env→Env
 | []=>[]
 | (k,v)::r=>match Jg keep k with
   | true=>(k,v)::Ix keep r
   | false=>Ix keep r
theorem Rs (keep:List Nat) (t:Nat):∀ e:Env,gt (Ix keep e) t=if Jg keep t=true then gt e t else .any
 | []=>by simp [Ix,gt]
 | (k,v)::r=>by
   simp only [Ix]
   cases h:Jg keep k with
   | true =>
     rw [J5,J5,Rs keep t r]
     by_cases e:k=t
     ·subst e;simp [h]
     ·simp [e]
   | false =>
     show gt (Ix keep r) t=_
     rw [J5,Rs keep t r]
     by_cases e:k=t
     ·subst e;simp [h]
     ·simp [e]
theorem Aa (keep:List Nat) {c:Code} {e:Env} {o l:List Blk} {d:List PDef} {Q:AEx→St→Prop} (h:WC C n c ⟨Ix keep e,o,l,d⟩ Q):WC C n c ⟨e,o,l,d⟩ Q:=fun V a hR =>
 h V a ⟨hR.mem,fun t=>by
   show Rep V (gt (Ix keep e) t) _
   rw [Rs]
   split
   ·exact hR.env t
   ·exact .any,hR.tmps,hR.defers⟩
theorem ET:(∀ keep,Ix keep []=[])∧(∀ keep k v r,Ix keep ((k,v)::r)=match Jg keep k with
  | true=>(k,v)::Ix keep r
  | false=>Ix keep r)∧(∀ k,Jg [] k=false)∧(∀ a r k,Jg (a::r) k=if a=k then true else Jg r k):=⟨fun _=>rfl,fun _ _ _ _=>rfl,Xe,Tl⟩
theorem Sv {all:List Oper} {K K':St→Prop} {KP KP':PVal→St→Prop} (hK:∀ σ,K σ→K' σ) (hP:∀ p σ,KP p σ→KP' p σ):∀ {os:List Oper} {σ:St},Ja C n all os σ K KP→Ja C n all os σ K' KP'
 | [],_,h=>hK _ h
 | _::_,_,h=>Db (fun _ _ hk=>Sv hK hP hk) hP h
/-- A row of operations, behind which the state is told anew. -/
theorem Pr {id:Nat} {l:List Oper} {y:Code} {σ:St} {Q:AEx→St→Prop} (σ0:St) (h:H8 C n l l σ (fun σ'=>∃ θ,Conv σ' σ0 θ) (fun p σ'=>Q (.pan p) σ') .mk) (hy:WC C n y σ0 Q):WC C n (.seq (.region id l.toArray false) y) σ Q :=
 WC.rs fun K hK=>by
  have:∀ σ',(∃ θ,Conv σ' σ0 θ)→K σ':=fun σ' ⟨θ,hc⟩=>hK _ (WC.conv θ hc hy)
  exact Sv this (fun _ _ h=>h) h
/-- A piece of code, behind which the state is told anew, and P known. -/
theorem WC.sj {x y:Code} {σ:St} {Q:AEx→St→Prop} (P:Prop) (σ0:St) (h:WC C n x σ (Hd (fun σ'=>P∧∃ θ,Conv σ' σ0 θ) Q)) (hy:P→WC C n y σ0 Q):WC C n (.seq x y) σ Q :=
 WC.seq (h.mono fun e σ' hq=>by
  cases e with
  | normal=>obtain ⟨hp,θ,hc⟩:=hq;exact WC.conv θ hc (hy hp)
  | exit i=>exact hq
  | ret=>exact hq
  | pan p=>exact hq)
/-- Where a condition stands. -/
theorem WC.cs {c:Operand} {x y z:Code} {σ:St} {Q:AEx→St→Prop} {b:Bool} (hc:val σ.e c=.bool b)
  (h:∀ K:St→Prop,(∀ σ',WC C n z σ' Q→K σ')→(b=true→WC C n x σ (Hd K Q))∧(b=false→WC C n y σ (Hd K Q))):WC C n (.seq (.cond c x y) z) σ Q :=
 Am fun K hK=>WC.cond hc (h K hK).1 (h K hK).2
theorem thenQ_n (K:St→Prop) (Q:AEx→St→Prop) (σ:St):Hd K Q .normal σ=K σ:=rfl
theorem thenQ_r (K:St→Prop) (Q:AEx→St→Prop) (σ:St):Hd K Q .ret σ=Q .ret σ:=rfl
theorem thenQ_e (K:St→Prop) (Q:AEx→St→Prop) (i:Nat) (σ:St):Hd K Q (.exit i) σ=Q (.exit i) σ:=rfl
theorem thenQ_p (K:St→Prop) (Q:AEx→St→Prop) (p:PVal) (σ:St):Hd K Q (.pan p) σ=Q (.pan p) σ:=rfl
theorem blkQ_n (id:Nat) (K:St→Prop) (Q:AEx→St→Prop) (σ:St):Pz id K Q .normal σ=K σ:=rfl
theorem blkQ_r (id:Nat) (K:St→Prop) (Q:AEx→St→Prop) (σ:St):Pz id K Q .ret σ=Q .ret σ:=rfl
theorem blkQ_e (id i:Nat) (K:St→Prop) (Q:AEx→St→Prop) (σ:St):Pz id K Q (.exit i) σ=if i=id then K σ else Q (.exit i) σ:=rfl
theorem blkQ_p (id:Nat) (K:St→Prop) (Q:AEx→St→Prop) (p:PVal) (σ:St):Pz id K Q (.pan p) σ=Q (.pan p) σ:=rfl
/-- The ends of pieces of code. -/
theorem EQ:(∀ K Q σ,Hd K Q .normal σ=K σ)∧(∀ K Q σ,Hd K Q .ret σ=Q .ret σ)∧(∀ K Q i σ,Hd K Q (.exit i) σ=Q (.exit i) σ)∧(∀ K Q p σ,Hd K Q (.pan p) σ=Q (.pan p) σ) ∧
  (∀ id K Q σ,Pz id K Q .normal σ=K σ)∧(∀ id K Q σ,Pz id K Q .ret σ=Q .ret σ)∧(∀ id i K Q σ,Pz id K Q (.exit i) σ=if i=id then K σ else Q (.exit i) σ)∧(∀ id K Q p σ,Pz id K Q (.pan p) σ=Q (.pan p) σ) :=
 ⟨fun _ _ _=>rfl,fun _ _ _=>rfl,fun _ _ _ _=>rfl,fun _ _ _ _=>rfl,fun _ _ _ _=>rfl,fun _ _ _ _=>rfl,fun _ _ _ _ _=>rfl,fun _ _ _ _ _=>rfl⟩
/-- Renaming, and what a state keeps. -/
theorem ER:(∀ f b,ren f (.bool b)=.bool b)∧(∀ f k m,ren f (.int k m)=.int k m)∧(∀ f s,ren f (.str s)=.str s)∧(∀ f,ren f .nilp=.nilp)∧(∀ f,ren f .nils=.nils)∧(∀ f,ren f .niliface=.niliface)∧(∀ f,ren f .nilfn=.nilfn)∧(∀ f,ren f .any=.any) ∧
  (∀ f r i o,ren f (.ptr r i o)=.ptr (f r) i o)∧(∀ f r i o,ren f (.ref r i o)=.ref (f r) i o)∧(∀ f g o,ren f (.gptr g o)=.gptr g o)∧(∀ f x o,ren f (.eptr x o)=.eptr (ren f x) o)∧(∀ f xs,ren f (.slc xs)=.slc (Ba f xs))∧(∀ f xs,ren f (.agg xs)=.agg (Ba f xs))∧(∀ f xs,ren f (.tuple xs)=.tuple (Ba f xs)) ∧
  (∀ f g a b,ren f (.fn g a b)=.fn g (Ba f a) (Ba f b))∧(∀ f t v,ren f (.iface t v)=.iface t (ren f v))∧(∀ f,Ba f []=[])∧(∀ f x xs,Ba f (x::xs)=ren f x::Ba f xs)∧(∀ f xs s t,Cu f (.row xs s t)=.row (Ba f xs) s t)∧(∀ f,Cu f .dead=.dead) ∧
  (∀ θ m j,thF θ m (.o j)=.o j)∧(∀ θ m j,thF θ m (.l j)=.l (θ.getD j m))∧(∀ f e,R5 f e []=True)∧(∀ f e k p r,R5 f e ((k,p)::r)=(gt e k=ren f p∧R5 f e r))∧(∀ l,pick l []=some [])∧(∀ (a:Nat) l d,(a::l).getD 0 d=a)∧(∀ (a:Nat) l i d,(a::l).getD (i + 1) d=l.getD i d)∧(∀ l j js,pick l (j::js)=match l[j]?,pick l js with
   | some k,some ks=>some (k::ks)
   | _,_=>none) :=
 ⟨fun _ _=>rfl,fun _ _ _=>rfl,fun _ _=>rfl,fun _=>rfl,fun _=>rfl,fun _=>rfl,fun _=>rfl,fun _=>rfl,fun _ _ _ _=>rfl,fun _ _ _ _=>rfl,fun _ _ _=>rfl,fun _ _ _=>rfl,fun _ _=>rfl,fun _ _=>rfl,fun _ _=>rfl,fun _ _ _ _=>rfl,fun _ _ _=>rfl,fun _=>rfl,fun _ _ _=>rfl,
  fun _ _ _ _=>rfl,fun _=>rfl,fun _ _ _=>rfl,fun _ _ _=>rfl,fun _ _=>rfl,fun _ _ _ _ _=>rfl,fun _=>rfl,fun _ _ _=>rfl,fun _ _ _ _=>rfl,fun _ _ _=>rfl⟩

theorem ClosedL.append {a b:List PVal} (h:ClosedL a) (k:ClosedL b):ClosedL (a ++ b):=fun f=>by
 rw [Bw,List.map_append,← Bw,← Bw,h f,k f]
/-- The end of a function that hands back a closed value, its blocks asx they are. -/
theorem B5 {e:Env} {o l:List Blk} {d:List PDef} {p:PVal} {R:PVal→List Blk→Prop} (hp:Closed p) (ho:∀ k∈o,D8 k) (h:R p o):EndsIn ⟨e,o,l,d⟩ p R:=EndsIn.plain hp ho h
theorem Bf:∀ k∈([]:List Blk),D8 k:=fun k h=>by cases h
theorem C0 {b:Blk} {o:List Blk} (h:D8 b) (k:∀ k∈o,D8 k):∀ k∈b::o,D8 k:=fun x hx=>by
 rcases List.mem_cons.1 hx with rfl | hx
 ·exact h
 ·exact k x hx
/-- A call that is handed one block of closed values, and hands back a closed value. -/
theorem CallW.one {g:FuncId} {args args':List PVal} {σ:St} {K KP:PVal→St→Prop} {r:Ref} {b b2:Blk} {p:PVal} (spec:FSem C g args' [b] fun q st=>q=.ret p∧st=[b2]) (hb:Ao σ.o σ.l r=some b) (hcb:D8 b) (hcb2:D8 b2) (hp:Closed p)
  (ha:args=Ba (A4 [r] σ.l.length) args') (h:K p (A1 σ r b2)):CallW C g args σ K KP :=
 CallW.of spec [r] (by simp) ha rfl (fun j r' k hr hk=>by
  cases j with
  | zero=>simp at hr hk;subst hr hk;rw [hcb];exact hb
  | succ j=>simp at hr) fun q st' ⟨h1,h2⟩=>by
  subst h1 h2
  have e:By σ [r] [b2]=A1 σ r b2:=by simp [By]
  simp only [List.map_cons,List.map_nil,hcb2 _,hp _,e]
  exact h
theorem fCall_1 (r:Ref) (m:Nat):A4 [r] m (.o 0)=r:=rfl
theorem Bh {x:Int} (h0:0≤x) (h1:x < 18446744073709551616):IntKind.wrap .u64 x=x:=by rw [IntKind.wrap_u64];omega
theorem wu32 {x:Int} (h0:0≤x) (h1:x < 4294967296):IntKind.wrap .u32 x=x:=by rw [IntKind.wrap_u32'];omega
/-- Whole numbers that fit. -/
theorem w64 {x:Int} (h0:-9223372036854775808≤x) (h1:x≤9223372036854775807):IntKind.wrap .i64 x=x:=by rw [IntKind.wrap_i64];omega
/-- All the equations of a region's walk. -/
theorem EX:type_of% (And.intro EV (And.intro EO (And.intro ED (And.intro EB (And.intro EP (And.intro EL ES)))))):=And.intro EV (And.intro EO (And.intro ED (And.intro EB (And.intro EP (And.intro EL ES)))))
theorem EJ:type_of% (And.intro @Vl (And.intro @Vk (And.intro EW EI))):=And.intro @Vl (And.intro @Vk (And.intro EW EI))
end Go.V
namespace Go.V
open Go

variable {C:Ctx} {n:Nat}

theorem Z7 {V:View} (hlt:∀ r b x y,V.loc r=.at b x y→b < V.w.heap.size) {r:Ref} {elems:List PVal} {size:Nat} {ty:TypeId} {off len:Nat} {v:Value} (hB:BlkRep V r (.row elems size ty)) (hp:Rep V (.ref r off len) v) (hle:off + len≤elems.length) :
  Rep (V.frz r) (.slc ((elems.drop off).take len)) v:=by
 cases hp with
 | refDead hd _=>rcases hB with ⟨h1,_⟩ | ⟨_,_,_,_,h1,_⟩ <;> rw [h1] at hd <;> cases hd
 | refEmpty _=>simp only [List.take_zero];exact .slcEmpty
 | @ref _ _ _ cap b base size' hl hcap _ =>
   rcases hB with ⟨h1,_⟩ | ⟨b',base',cells,fr,k1,k2,k3,k4,k5,k6,k7⟩
   ·rw [h1] at hl;cases hl
   rw [hl] at k1;cases k1
   have hlen:((elems.drop off).take len).length=len:=by simp;omega
   have hm:off * size + len * size≤elems.length * size:=by rw [←Nat.add_mul];exact Nat.mul_le_mul_right _ hle
   have hget:∀ (i:Nat) (x:PVal),((elems.drop off).take len)[i]? = some x→i < len∧elems[off + i]? = some x:=fun i x hx=>by
    rw [List.getElem?_take] at hx
    split at hx
    ·rename_i hi;rw [List.getElem?_drop] at hx;exact ⟨hi,hx⟩
    ·cases hx
   have:=Rep.slc (V:=V.frz r) (xs:=(elems.drop off).take len) (b:=b) (off:=base + off * size) (cap:=cap) size (fun m=>cells.getD (base + off * size + m) undef) (fun h=>h.2 _ _ hl) (hlt _ _ _ _ hl) (by rw [hlen];exact hcap)
    (fun m hm'=>by
     rw [hlen] at hm'
     have hlt':base + off * size + m < cells.size:=by omega
     refine ⟨?_,k5 _ hlt'⟩
     show V.w.cell? ⟨b,base + off * size + m,none⟩=_
     unfold World.cell?
     simp only [k2]
     rw [Array.getD_eq_getD_getElem?,Array.getElem?_eq_getElem hlt'];rfl)
    (fun i x hx=>k6 _ x (hget i x hx).2)
    (fun i x j c hx hc=>by
     have h:=k7 _ x j c (hget i x hx).2 hc
     rw [show base + off * size + (i * size + j)=base + (off + i) * size + j by rw [Nat.add_mul];omega]
     exact h.mono (V.to_frz r))
   rw [hlen] at this
   exact this

/-- A row of the function's own, which the temporary t holds, is given up: what t holds may be read for ever. -/
theorem WC.frz {c:Code} {e:Env} {o l:List Blk} {d:List PDef} {Q:AEx→St→Prop} (t k:Nat) {off len:Nat} {elems:List PVal} {size:Nat} {ty:TypeId} (ht:gt e t=.ref (.l k) off len) (hk:l[k]? = some (.row elems size ty)) (hle:off + len≤elems.length)
  (h:WC C n c ⟨(t,.slc ((elems.drop off).take len))::e,o,l.set k .dead,d⟩ Q):WC C n c ⟨e,o,l,d⟩ Q:=fun V a hR=>by
 have hB:Ao o l (.l k)=some (.row elems size ty):=hk
 have hW:Went C V ⟨e,o,l,d⟩ (V.frz (.l k)) ⟨e,o,l.set k .dead,d⟩:=⟨V.to_frz _,V.later_frz _,by
  have:=Ep (σ:=⟨e,o,l,d⟩) (k:=.dead) hB
  show MemRel C _ (Ao (A1 ⟨e,o,l,d⟩ (.l k) .dead).o (A1 ⟨e,o,l,d⟩ (.l k) .dead).l)
  rw [this];exact hR.mem.frz _,rfl,rfl⟩
 have hR1:=hW.rel hR
 have hR2:Rel C n (V.frz (.l k)) ⟨(t,.slc ((elems.drop off).take len))::e,o,l.set k .dead,d⟩ a:=by
  refine ⟨hR1.mem,fun t'=>?_,hR1.tmps,hR1.defers⟩
  show Rep _ (gt ((t,_)::e) t') _
  rw [J5]
  split
  ·rename_i e'
   subst e'
   have h1:=hR.env t
   simp only [ht] at h1
   exact Z7 hR.mem.locLt (hR.mem.blk _ _ hB) h1 hle
  ·exact hR1.env t'
 have h3:c.wp C.P (Kn C n (V.frz (.l k)) Q) a V.w:=h (V.frz (.l k)) a hR2
 exact wp_mono h3 fun _ _ _ ⟨V',σ'',x,k1,k2,k3,k4,k5⟩=>⟨V',σ'',x,k1,hW.later.trans k2,k3,k4,k5⟩

/-- A nil slice, told as an empty row of the function's own. -/
theorem Aao {c:Code} {e:Env} {o l:List Blk} {d:List PDef} {Q:AEx→St→Prop} (t size:Nat) (ty:TypeId) (ht:gt e t=.nils)
  (h:WC C n c ⟨(t,.ref (.l l.length) 0 0)::e,o,l ++ [.row [] size ty],d⟩ Q):WC C n c ⟨e,o,l,d⟩ Q:=fun V a hR=>by
 have hfresh:Ao o l (.l l.length)=none:=by simp [Ao]
 have hout:V.loc (.l l.length)=.out:=hR.mem.out _ hfresh
 let V1:View:={ V with loc:=Ih V.loc (.l l.length) .none }
 have hTo:V.To V1:=⟨Nat.le_refl _,fun _ _ _=>rfl,fun _ _ h=>h,fun r hr=>by
  by_cases e':r=.l l.length
  ·subst e';exact absurd hout hr
  ·exact .inl (B0 e'),fun _ _ _ _ _ _ _ _ h=>h⟩
 have hL:Later V V1:=⟨Nat.le_refl _,fun _ _ _=>rfl,fun _ _ h=>h,fun _ _ h _=>h,fun r b x y _ hr=>by
  by_cases e':r=.l l.length
  ·subst e'
   have:V1.loc (.l l.length)=.none:=Az _ _ _
   rw [this] at hr;cases hr
  ·have:V1.loc r=V.loc r:=B0 e'
   rw [this] at hr;exact ⟨r,x,y,hr⟩,fun m _=>.inl (B0 (loc:=V.loc) (r:=.l l.length) (y:=.o m) (x:=.none) (by simp)),fun _ _ _ _ _ _ _ _ h=>h,rfl,rfl,rfl⟩
 have hM:MemRel C V1 (Ao (B8 ⟨e,o,l,d⟩ (.row [] size ty)).o (B8 ⟨e,o,l,d⟩ (.row [] size ty)).l):=by
  rw [M4]
  refine hR.mem.upd1 _ _ hTo (fun x hx=>B0 hx) (fun _ _ _ _=>rfl) ?_ (fun _ _ ho _=>ho) ?_ hR.mem.lt (.inl ⟨Az _ _ _,rfl⟩)
  ·intro b x y hb
   have:V1.loc (.l l.length)=.none:=Az _ _ _
   rw [this] at hb;cases hb
  ·intro b x y hb
   have:V1.loc (.l l.length)=.none:=Az _ _ _
   rw [this] at hb;cases hb
 have hW:Went C V ⟨e,o,l,d⟩ V1 (B8 ⟨e,o,l,d⟩ (.row [] size ty)):=⟨hTo,hL,hM,rfl,rfl⟩
 have hR1:=hW.rel hR
 have hR2:Rel C n V1 ⟨(t,.ref (.l l.length) 0 0)::e,o,l ++ [.row [] size ty],d⟩ a:=by
  refine ⟨hR1.mem,fun t'=>?_,hR1.tmps,hR1.defers⟩
  show Rep _ (gt ((t,_)::e) t') _
  rw [J5]
  split
  ·rename_i e'
   subst e'
   have h1:=hR.env t
   simp only [ht] at h1
   generalize a.tmps.getD t undef=v at h1
   cases h1
   exact .refEmpty (.inl (Az _ _ _))
  ·exact hR1.env t'
 have h3:c.wp C.P (Kn C n V1 Q) a V.w:=h V1 a hR2
 exact wp_mono h3 fun _ _ _ ⟨V',σ'',x,k1,k2,k3,k4,k5⟩=>⟨V',σ'',x,k1,hL.trans k2,k3,k4,k5⟩

/-- A piece of code, behind which the state is told anew, by something that is chosen there, and of which P is known. -/
theorem Bt {X:Type} {x y:Code} {σ:St} {Q:AEx→St→Prop} (P:X→Prop) (S:X→St) (h:WC C n x σ (Hd (fun σ'=>∃ g θ,P g∧Conv σ' (S g) θ) Q)) (hy:∀ g,P g→WC C n y (S g) Q):WC C n (.seq x y) σ Q :=
 WC.seq (h.mono fun e σ' hq=>by
  cases e with
  | normal=>obtain ⟨g,θ,hp,hc⟩:=hq;exact WC.conv θ hc (hy g hp)
  | exit i=>exact hq
  | ret=>exact hq
  | pan p=>exact hq)
/-- Another telling of what a temporary holds. -/
theorem Vf {c:Code} {e:Env} {o l:List Blk} {d:List PDef} {Q:AEx→St→Prop} (t:Nat) {p:PVal} (q:PVal) (ht:gt e t=p) (hq:∀ V v,Rep V p v→Rep V q v)
  (h:WC C n c ⟨(t,q)::e,o,l,d⟩ Q):WC C n c ⟨e,o,l,d⟩ Q:=fun V a hR=>h V a ⟨hR.mem,fun t'=>by
  show Rep V (gt ((t,q)::e) t') _
  rw [J5]
  split
  ·rename_i e'
   subst e'
   have h1:=hR.env t
   simp only [ht] at h1
   exact hq _ _ h1
  ·exact hR.env t',hR.tmps,hR.defers⟩
theorem Rd (V:View) (v:Value) (h:Rep V .nils v):Rep V (.slc []) v:=by cases h;exact .slcEmpty
/-- A nil slice, told as an empty one that may be read for ever. -/
theorem Vg {c:Code} {e:Env} {o l:List Blk} {d:List PDef} {Q:AEx→St→Prop} (t:Nat) (ht:gt e t=.nils) (h:WC C n c ⟨(t,.slc [])::e,o,l,d⟩ Q):WC C n c ⟨e,o,l,d⟩ Q :=
 Vf t (.slc []) ht (fun V v=>Rd V v) h
/-- Arguments that are told more weakly: nil slices as empty ones. -/
def WkL:List PVal→List PVal→Prop
 | [],[]=>True
 | p::ps,q::qs=>(p=q∨(p=.nils∧q=.slc []))∧WkL ps qs
 | _,_=>False
theorem wkL_rep {V:View} {ps qs:List PVal} (h:WkL ps qs) {vs:Array Value} (hv:Ca V ps vs):Ca V qs vs:=by
 have len:∀ {ps qs:List PVal},WkL ps qs→ps.length=qs.length∧∀ (j:Nat) (q:PVal),qs[j]? = some q→∃ p,ps[j]? = some p∧(p=q∨(p=.nils∧q=.slc [])):=by
  intro ps
  induction ps with
  | nil=>intro qs h;cases qs <;> first | exact h.elim | exact ⟨rfl,fun j q hq=>by simp at hq⟩
  | cons p ps ih =>
    intro qs h
    cases qs with
    | nil=>exact h.elim
    | cons q qs =>
      obtain ⟨h1,h2⟩:=ih h.2
      refine ⟨by simp [h1],fun j r hr=>?_⟩
      cases j with
      | zero=>simp at hr;subst hr;exact ⟨p,rfl,h.1⟩
      | succ j=>simp at hr;simpa using h2 j r hr
 obtain ⟨h1,h2⟩:=len h
 refine ⟨by rw [hv.1,h1],fun j q hq=>?_⟩
 obtain ⟨p,hp,he⟩:=h2 j q hq
 have:=hv.2 j p hp
 rcases he with rfl | ⟨rfl,rfl⟩
 ·exact this
 ·exact Rd _ _ this
theorem FSem.weak {f:FuncId} {args args':List PVal} {st:List Blk} {R:PRes→List Blk→Prop} (h:FSem C f args' st R) (hw:WkL args args'):FSem C f args st R :=
 ⟨h.1,fun V vs hM ha=>h.2 V vs hM (wkL_rep hw ha)⟩
theorem H7 {P:Program} {ops:Array Oper} {Q:Exit→Act→World→Prop} {i:Nat} {rest:List Nat} {a:Act} {w:World} {o:Oper} (ho:ops[i]? = some o) (hg:o.guard=none)
  (h:o.wp P a w (wpOps P ops Q rest) Q):wpOps P ops Q (i::rest) a w:=by
 have hw:Region.wanted o (yielded ops a.tmps)=true:=by unfold Region.wanted;simp [hg]
 simp only [wpOps,ho]
 rw [if_pos hw]
 exact .inl h
/-- A slice held against nil: the answer is not known where it is empty. -/
theorem WC.nc {id t s b:Nat} {T T1 T2 T3:TypeId} {p1 p2:String} {a1 a2:Array Edge} {y:Code} {e:Env} {o l:List Blk} {d:List PDef} {Q:AEx→St→Prop} {xs:List PVal} (hT:∃ d,C.P.underlying T=some (.slice d)) (hs:gt e s=.slc xs) (ht:t < n) (hb:b < n)
  (h:∀ r:Bool,(xs≠[]→r=false)→WC C n y ⟨(b,.bool r)::(t,.slc xs)::e,o,l,d⟩ Q) :
  WC C n (.seq (.region id #[{ dst:=some t,op:=.move (.tmp s),type:=T1,pos:=p1,after:=a1,guard:=none },{ dst:=some b,op:=.binOp .eql T (.tmp t) (.const (.slice none 0 0)) T2,type:=T3,pos:=p2,after:=a2,guard:=none }] false) y) ⟨e,o,l,d⟩ Q:=fun V a hR=>by
 obtain ⟨dd,hTd⟩:=hT
 have h1:=hR.env s
 simp only [hs] at h1
 generalize hv:a.tmps.getD s undef=v at h1
 obtain ⟨ad,len,cap,rfl,hne⟩:∃ ad len cap,v=.slice ad len cap∧(xs≠[]→ad≠none):=by
  cases h1 with
  | slcEmpty=>exact ⟨_,_,_,rfl,fun h=>absurd rfl h⟩
  | slc=>exact ⟨_,_,_,rfl,fun _ h=>by cases h⟩
 have hR1:=Fk hR (p:=.slc xs) (v:=.slice ad len cap) h1 (some t)
 rw [show St.put ⟨e,o,l,d⟩ n (some t) (.slc xs)=⟨(t,.slc xs)::e,o,l,d⟩ by rw [Le,if_pos ht]] at hR1
 have hR2:=Fk hR1 (p:=.bool ad.isNone) (v:=.bool ad.isNone) .bool (some b)
 rw [show St.put ⟨(t,.slc xs)::e,o,l,d⟩ n (some b) (.bool ad.isNone)=⟨(b,.bool ad.isNone)::(t,.slc xs)::e,o,l,d⟩ by rw [Le,if_pos hb]] at hR2
 have hy:=h ad.isNone (fun hx=>by cases ad with
  | none=>exact absurd rfl (hne hx)
  | some _=>rfl) V _ hR2
 have htm:(a.put (some t) (.slice ad len cap)).eval (.tmp t)=.slice ad len cap:=by
  show (a.tmps.setIfInBounds t _).getD t undef=_
  rw [Lj _ _ _ _ _ (by rw [hR.tmps];exact ht),if_pos rfl]
 refine wp_seq (wp_region ?_)
 show wpOps C.P _ _ [0,1] a V.w
 have x1:(execOp a.eval { dst:=some t,op:=.move (.tmp s),type:=T1,pos:=p1,after:=a1,guard:=none }).run C.P V.w=.ok (.value (.slice ad len cap)) V.w:=by
  show (pure (Next.value (a.tmps.getD s undef)):Sem Next).run C.P V.w=_
  rw [hv];rfl
 have x2:(execOp (a.put (some t) (.slice ad len cap)).eval { dst:=some b,op:=.binOp .eql T (.tmp t) (.const (.slice none 0 0)) T2,type:=T3,pos:=p2,after:=a2,guard:=none }).run C.P V.w=.ok (.value (.bool ad.isNone)) V.w:=by
  show (do pure (Next.value (← (do eqGuard .eql T (.tmp t) (.const (.slice none 0 0)) ((a.put (some t) (.slice ad len cap)).eval (.tmp t)) (Value.slice none 0 0);binOp .eql T ((a.put (some t) (.slice ad len cap)).eval (.tmp t)) (Value.slice none 0 0):Sem Value))):Sem Next).run C.P V.w=_
  rw [htm]
  have hg:(eqGuard .eql T (.tmp t) (.const (.slice none 0 0)) (Value.slice ad len cap) (Value.slice none 0 0)).run C.P V.w=.ok () V.w:=by unfold eqGuard;simp
  have he:(Op.equal T (.slice ad len cap) (.slice none 0 0)).run C.P V.w=.ok ad.isNone V.w:=by
   unfold Op.equal
   rw [show Op.maxDepth=9999 + 1 from rfl]
   unfold Op.equalIn
   rw [Sem.run_bind,run_underlying hTd]
   cases ad <;> simp
  simp only [Sem.run_bind,hg,Result.andThen_ok]
  simp [binOp,he]
 refine H7 (o:={ dst:=some t,op:=.move (.tmp s),type:=T1,pos:=p1,after:=a1,guard:=none }) rfl rfl (Co x1 ?_)
 refine H7 (o:={ dst:=some b,op:=.binOp .eql T (.tmp t) (.const (.slice none 0 0)) T2,type:=T3,pos:=p2,after:=a2,guard:=none }) rfl rfl (Co x2 ?_)
 exact wp_mono hy fun _ _ _ h=>h

theorem WC.label {i:Nat} {σ:St} {Q:AEx→St→Prop} (h:Q .normal σ):WC C n (.label i) σ Q:=fun V _ hR=>wp_label ⟨V,σ,.normal,rfl,Later.refl V,hR,trivial,h⟩
theorem WC.ls {i:Nat} {y:Code} {σ:St} {Q:AEx→St→Prop} (h:WC C n y σ Q):WC C n (.seq (.label i) y) σ Q:=WC.seq (WC.label h)
theorem WC.scope {c:Code} {σ:St} {Q:AEx→St→Prop} (h:WC C n c σ Q):WC C n (.scope c) σ Q:=fun V a hR=>by
 refine wp_scope_straight (wp_mono (h V a hR) fun e a' w' hq=>?_)
 cases e with
 | goto l =>
   obtain ⟨V',σ',x,h1,h2,h3,h4,h5⟩:=hq
   cases x <;> exact h4.elim
 | normal=>exact hq
 | exit id=>exact hq
 | ret=>exact hq
 | panic ch=>exact hq
 | outgrown=>exact hq
end Go.V
