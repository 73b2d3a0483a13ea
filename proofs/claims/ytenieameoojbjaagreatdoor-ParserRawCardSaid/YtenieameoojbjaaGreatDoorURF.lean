/-
 Texts joined: ReH ReI ReJ ReK.
-/
import Derived.Test.YtenieameoojbjaaGreatDoorURE
import Derived.Test.YtenieameoojbjaaGreatDoorUMK
import Derived.Test.YtenieameoojbjaaGreatDoorUML
set_option linter.unusedVariables false
set_option linter.unusedSimpArgs false
set_option linter.loopingSimpArgs false
-- TIGHT
-- CLOSERS: PCL,TCL
set_option maxHeartbeats 8000000
set_option maxRecDepth 8000
namespace Go.LexSem
open Go Go.V Go.Proofs Go.Num

/-- What the reader needs to know of the tokens. -/
structure RTk (ts:List Tok):Prop where
 w:Sr ts
 f:Aap ts
theorem rAll {ts:List Tok} (W:RTk ts):∀ n,RAll ts n:=fun n=>by
 induction n using Nat.strongRecOn with
 | _ n ih =>
   cases n with
   | zero=>exact ⟨fun _ _ h=>by omega,fun _ _ h=>by omega,fun _ _ h=>by omega,fun _ _ h=>by omega,fun _ _ h=>by omega,fun _ _ h=>by omega,fun _ _ h=>by omega,fun _ _ h=>by omega,fun _ _ h=>by omega⟩
   | succ n =>
     have H:∀ m,m≤n→RAll ts m:=fun m hm=>ih m (by omega)
     have Hn:=H n (Nat.le_refl n)
     exact ⟨fun r i h=>Yn ts n Hn r i h,fun r i h=>ror_step ts W.w n H r i h,fun r i h=>rand_step ts W.w n H r i h,fun r i h=>rcmp_step ts n Hn r i h,fun r i h=>rsum_step ts W.w n H r i h,
      fun r i h=>Sh ts W.w n H r i h,fun r i h=>Wm ts n H r i h,fun r i h=>Si ts W.f n Hn r i h,fun r i h=>Yl ts n H r i h⟩
theorem G4 {ts:List Tok} (W:RTk ts) (r:RS) (i:PInv ts r.s):RSem 149 [] ts r (Hr ts r.s) exV:=(rAll W _).expr r i (by unfold Ov;omega)
theorem S6 {ts:List Tok} (W:RTk ts) (r:RS) (i:PInv ts r.s):RSem 178 [] ts r (Iq ts r.s) Dv:=(rAll W _).list r i (by unfold Ov;omega)
/-! ### Types -/
theorem zty:PVal.agg [.int .i64 0,.int .i64 0,.int .i64 0,.int .i64 0,.nils]=tyV (.mk 0 0 0 0 []):=by rw [Jv,Jl];rfl
theorem ztyC:[PVal.int .i64 0,.int .i64 0,.int .i64 0,.int .i64 0,.nils]=tyC (.mk 0 0 0 0 []):=by have:=zty;rw [tyV] at this;injection this
theorem RelV.alive {α:Type} {ts:List Tok} {x:PR α} {r r':RS} {v:α} (h:RelV ts x r v r') (e:r'.e=0):r.e=0:=Classical.byContradiction fun hd=>by rw [h.dead hd] at e;exact hd e
theorem P2 {ts:List Tok} {t:List UInt8} {r r':RS} {u:Unit} (i:PInv ts r.s) (h:RelV ts (Ah ts [t] r.s) r u r') (e:r'.e=0):rem ts r'.s + 1≤rem ts r.s:=(A6 i (h.okv e)).rem
theorem Jz (ts:List Tok) (n:Nat) (r1:RS) (i1:PInv ts r1.s) (H:r1.e=0→RSem 148 [] ts r1 (Gu ts n r1.s) tyV):RSem 132 [] ts r1 (Gu ts n r1.s) tyV:=by
 have hx:=cy0 (ts:=ts) (r:=r1) (x:=Gu ts n r1.s)
 unfold RSem
 refine FSem.en 11 Tryz.func132 ?_
 simp only [Aj]
 refine WC.go ?_
 refine Am fun K1 hK1=>?_
 refine WC.rs fun K hK=>?_
 simp only [↓EJ,FY,simprocAttr,Bj]
 refine hK _ ?_;clear hK K
 refine WC.cond rfl (fun h=>?_) fun h=>?_
 ·have he:r1.e≠0:=by simp at h;omega
  refine WC.go (Aa [0,2] ?_)
  refine WC.ret ?_
  simp only [↓EJ,FY,simprocAttr,EQ,EF,Tryz.results132]
  exact RSem.done (v:=.mk 0 0 0 0 []) (RelV.stop i1 he) zty (B2 _) rfl
 have he:r1.e=0:=by simp at h;omega
 refine WC.skip (hK1 _ ?_)
 refine WC.rs fun K hK=>?_
 simp only [↓EJ,FY,simprocAttr]
 refine CallX.mk (M8 (H he) rfl rfl (by simp only [CL,and_self]) B2 fun v r2 h2=>?_)
 simp only [↓EJ,FY,simprocAttr,TS]
 refine hK _ ?_;clear hK K
 refine WC.ret ?_
 simp only [↓EJ,FY,simprocAttr,EQ,EF,Tryz.results132,TS]
 exact RSem.done (hx v r2 h2) rfl (B2 _) rfl
theorem Ym (ts:List Tok) (n:Nat) (H:∀ m,m≤n→∀ r,PInv ts r.s→2 * rem ts r.s + 1≤m→RSem 148 [] ts r (Gu ts m r.s) tyV) (r1:RS) (i1:PInv ts r1.s) (hn:2 * rem ts r1.s + 1≤n + 1):RSem 148 [] ts r1 (Gu ts (n + 1) r1.s) tyV:=by
 have hx:=cy0 (ts:=ts) (r:=r1) (x:=Gu ts (n + 1) r1.s)
 replace hx:=hx.to fun _=>(by rw [Gu])
 have hp2:=J0 i1
 unfold RSem
 refine FSem.en 82 Tryz.func148 ?_
 simp only [Aj]
 refine WC.go ?_
 refine WC.bs fun K0 hK0=>?_
 refine WC.rs fun K hK=>?_
 simp only [↓EJ,FY,simprocAttr]
 refine CallX.tk hx i1 rfl rfl fun b2 r2 i2 q2 hx t2=>?_
 simp only [↓EJ,FY,simprocAttr]
 refine hK _ ?_;clear hK K
 refine WC.cond rfl (fun h=>?_) fun h=>?_
 ·cases h
  dsimp only at hx
  refine WC.go ?_
  refine WC.ret ?_
  simp only [↓EJ,FY,simprocAttr,EQ,EF,Tryz.results148]
  exact RSem.done (hx (.mk 1 0 0 0 []) r2 (RelV.ok i2)) (by rw [Jv,Jl];rfl) (B2 _) rfl
 cases h
 dsimp only at hx
 refine WC.rs fun K hK=>?_
 simp only [↓EJ,FY,simprocAttr]
 refine CallX.tk hx i2 rfl rfl fun b3 r3 i3 q3 hx t3=>?_
 simp only [↓EJ,FY,simprocAttr]
 refine hK _ (Aa [0,2,3,4,5,10,14,18,35,71] ?_);clear hK K
 refine WC.cond rfl (fun h=>?_) fun h=>?_
 ·cases h
  dsimp only at hx
  refine WC.go ?_
  refine WC.ret ?_
  simp only [↓EJ,FY,simprocAttr,EQ,EF,Tryz.results148]
  exact RSem.done (hx (.mk 3 0 0 0 []) r3 (RelV.ok i3)) (by rw [Jv,Jl];rfl) (B2 _) rfl
 cases h
 dsimp only at hx
 refine WC.rs fun K hK=>?_
 simp only [↓EJ,FY,simprocAttr]
 refine CallX.tk hx i3 rfl rfl fun b4 r4 i4 q4 hx t4=>?_
 simp only [↓EJ,FY,simprocAttr]
 refine hK _ ?_;clear hK K
 refine WC.cond rfl (fun h=>?_) fun h=>?_
 ·cases h
  dsimp only at hx
  refine WC.go ?_
  refine WC.ret ?_
  simp only [↓EJ,FY,simprocAttr,EQ,EF,Tryz.results148]
  exact RSem.done (hx (.mk 4 0 0 0 []) r4 (RelV.ok i4)) (by rw [Jv,Jl];rfl) (B2 _) rfl
 cases h
 dsimp only at hx
 refine WC.rs fun K hK=>?_
 simp only [↓EJ,FY,simprocAttr]
 refine CallX.tk hx i4 rfl rfl fun b5 r5 i5 q5 hx t5=>?_
 simp only [↓EJ,FY,simprocAttr]
 refine hK _ (Aa [0,2,3,4,5,18,35,71] ?_);clear hK K
 refine WC.cond rfl (fun h=>?_) fun h=>?_
 ·cases h
  dsimp only at hx
  refine WC.go ?_
  refine WC.rs fun K hK=>?_
  simp only [↓EJ,FY,simprocAttr]
  refine Ad hx (A0 ts r5 i5 [91]) (by simp only [CL,PCL,TCL,and_self]) (fun _ _=>rfl) rfl rfl fun u r6 i6 q6 h6 hx=>?_
  simp only [↓EJ,FY,simprocAttr]
  refine hK _ ?_;clear hK K
  refine WC.rs fun K hK=>?_
  simp only [↓EJ,FY,simprocAttr]
  refine Ad hx (Gf ts r6 i6) (by simp only [CL,PCL,TCL,and_self]) (fun _ _=>rfl) rfl rfl fun lo r7 i7 q7 h7 hx=>?_
  simp only [↓EJ,FY,simprocAttr]
  refine hK _ (Aa [0,2,3,4,5,35,71] ?_);clear hK K
  refine WC.rs fun K hK=>?_
  simp only [↓EJ,FY,simprocAttr]
  refine Ad hx (A0 ts r7 i7 [44]) (by simp only [CL,PCL,TCL,and_self]) (fun _ _=>rfl) rfl rfl fun u r8 i8 q8 h8 hx=>?_
  simp only [↓EJ,FY,simprocAttr]
  refine hK _ ?_;clear hK K
  refine WC.rs fun K hK=>?_
  simp only [↓EJ,FY,simprocAttr]
  refine Ad hx (Gf ts r8 i8) (by simp only [CL,PCL,TCL,and_self]) (fun _ _=>rfl) rfl rfl fun hi r9 i9 q9 h9 hx=>?_
  simp only [↓EJ,FY,simprocAttr]
  refine hK _ ?_;clear hK K
  refine WC.rs fun K hK=>?_
  simp only [↓EJ,FY,simprocAttr]
  refine Ad hx (A0 ts r9 i9 [93]) (by simp only [CL,PCL,TCL,and_self]) (fun _ _=>rfl) rfl rfl fun u r10 i10 q10 h10 hx=>?_
  simp only [↓EJ,FY,simprocAttr]
  refine hK _ (Aa [0,2,3,4,5,35,71] ?_);clear hK K
  refine WC.go ?_
  refine WC.ret ?_
  simp only [↓EJ,FY,simprocAttr,EQ,EF,Tryz.results148]
  exact RSem.done (hx (.mk 2 lo hi 0 []) r10 (RelV.ok i10)) (by rw [Jv,Jl];rfl) (B2 _) rfl
 cases h
 dsimp only at hx
 refine WC.rs fun K hK=>?_
 simp only [↓EJ,FY,simprocAttr]
 refine CallX.tk hx i5 rfl rfl fun b6 r6 i6 q6 hx t6=>?_
 simp only [↓EJ,FY,simprocAttr]
 refine hK _ ?_;clear hK K
 refine WC.cond rfl (fun h=>?_) fun h=>?_
 ·cases h
  have y6:=(t6 rfl).2.2
  dsimp only at hx
  refine WC.go ?_
  refine WC.rs fun K hK=>?_
  simp only [↓EJ,FY,simprocAttr]
  refine Ad hx (A0 ts r6 i6 [91]) (by simp only [CL,PCL,TCL,and_self]) (fun _ _=>rfl) rfl rfl fun u r7 i7 q7 h7 hx=>?_
  simp only [↓EJ,FY,simprocAttr]
  refine hK _ (Aa [0,2,4,5,71] ?_);clear hK K
  refine WC.rs fun K hK=>?_
  simp only [↓EJ,FY,simprocAttr]
  refine Ad hx (C8 ts r7 i7) (by simp only [CL,PCL,TCL,and_self]) (fun _ _=>rfl) rfl rfl fun m r8 i8 q8 h8 hx=>?_
  simp only [↓EJ,FY,simprocAttr]
  refine hK _ ?_;clear hK K
  refine WC.rs fun K hK=>?_
  simp only [↓EJ,FY,simprocAttr]
  refine Ad hx (A0 ts r8 i8 [93]) (by simp only [CL,PCL,TCL,and_self]) (fun _ _=>rfl) rfl rfl fun u r9 i9 q9 h9 hx=>?_
  simp only [↓EJ,FY,simprocAttr]
  refine hK _ ?_;clear hK K
  refine A2 [2] fun K hK=>?_
  simp only [↓EJ,FY,simprocAttr,EZ]
  refine Ad hx (H n (Nat.le_refl n) r9 i9 (by omega)) (by simp only [CL,PCL,TCL,and_self]) B2 rfl rfl fun t r10 i10 q10 h10 hx=>?_
  simp only [↓EJ,FY,simprocAttr,EZ,TS]
  refine hK _ (Aa [0,2,4,5,71] ?_);clear hK K
  refine WC.rs fun K hK=>?_
  simp only [↓EJ,FY,simprocAttr,TS]
  refine hK _ ?_;clear hK K
  refine WC.ret ?_
  simp only [↓EJ,FY,simprocAttr,EQ,EF,Tryz.results148]
  exact RSem.done (hx (.mk 6 0 0 m [t]) r10 (RelV.ok i10)) (by rw [Jv,P3 (by simp)];rfl) (B2 _) rfl
 cases h
 dsimp only at hx
 refine WC.skip (hK0 _ ?_)
 refine WC.go ?_
 refine WC.rs fun K hK=>?_
 simp only [↓EJ,FY,simprocAttr]
 refine Ad hx (A0 ts r6 i6 [40]) (by simp only [CL,PCL,TCL,and_self]) (fun _ _=>rfl) rfl rfl fun u r7 i7 q7 h7 hx=>?_
 simp only [↓EJ,FY,simprocAttr]
 refine hK _ ?_;clear hK K
 have w7:r7.e=0→RSem 148 [] ts r7 (Gu ts n r7.s) tyV:=fun e=>H n (Nat.le_refl n) r7 i7 (by have:=P2 i6 h7 e;omega)
 refine WC.dg [⟨0,0,true,[]⟩,⟨1,0,true,[]⟩,⟨2,0,false,[]⟩,⟨3,1,false,[0,1]⟩,⟨4,2,false,[]⟩,⟨5,1,false,[]⟩,⟨6,0,false,[]⟩,⟨7,1,false,[]⟩] [0,1,0,4,12,31,63,127] fun K hK=>?_
 simp only [↓EJ,FY,simprocAttr,TS]
 refine Ad hx (Jz ts n r7 i7 w7) (by simp only [CL,PCL,TCL,and_self]) B2 rfl rfl fun a1 r8 i8 q8 h8 hx=>?_
 simp only [↓EJ,FY,simprocAttr,TS]
 refine hK _ (Aa [0,2,5,71] ?_);clear hK K
 refine WC.rs fun K hK=>?_
 simp only [↓EJ,FY,simprocAttr]
 refine Ad hx (A0 ts r8 i8 [44]) (by simp only [CL,PCL,TCL,and_self]) (fun _ _=>rfl) rfl rfl fun u r9 i9 q9 h9 hx=>?_
 simp only [↓EJ,FY,simprocAttr]
 refine hK _ ?_;clear hK K
 have w9:r9.e=0→RSem 148 [] ts r9 (Gu ts n r9.s) tyV:=fun e=>H n (Nat.le_refl n) r9 i9 (by have:=P2 i6 h7 (h8.alive (h9.alive e));omega)
 refine WC.dg [⟨0,0,true,[]⟩,⟨1,0,true,[]⟩,⟨2,0,false,[]⟩,⟨3,1,false,[0,1]⟩,⟨4,2,false,[]⟩,⟨5,1,false,[]⟩,⟨6,0,false,[]⟩,⟨7,1,false,[]⟩] [0,1,0,4,12,31,63,127] fun K hK=>?_
 simp only [↓EJ,FY,simprocAttr,TS]
 refine Ad hx (Jz ts n r9 i9 w9) (by simp only [CL,PCL,TCL,and_self]) B2 rfl rfl fun a2 r10 i10 q10 h10 hx=>?_
 simp only [↓EJ,FY,simprocAttr,TS]
 refine hK _ (Aa [0,2,5,71] ?_);clear hK K
 have y10:r10.e=0→rem ts r10.s + 1≤rem ts r1.s:=fun e=>by have:=P2 i6 h7 (h8.alive (h9.alive (h10.alive e)));omega
 refine WC.bs fun K1 hK1=>?_
 refine WC.loop (X:=Nat × List Ty × RS) (fun x=>⟨[(5,.ptr (.l 1) 0 0),(2,.ptr (.l 0) 0 0),(0,.ptr (.o 0) 0 0)],[Bj ts x.2.2],[.row [.agg (tyC (.mk 0 0 0 0 []))] 5 73,.row [.agg [.int .i64 5,.int .i64 0,.int .i64 0,.int .i64 0,.ref (.l 2) 0 x.2.1.length]] 5 73,.row (x.2.1.map tyV) 5 73],[]⟩)
  (fun y=>y.1≤n∧PInv ts y.2.2.s∧2 * rem ts y.2.2.s≤y.1 + 1∧(y.2.2.e=0→2 * rem ts y.2.2.s≤y.1)∧y.2.1≠[]∧y.2.1.length + rem ts y.2.2.s≤10002∧Cy ts (bnd (Ic ts y.1 y.2.1 y.2.2.s) (fun l s=>bnd (Ah ts [[41]] s) fun _ s=>.ok (.mk 5 0 0 0 l,s))) y.2.2 (RelV ts (Gu ts (n + 1) r1.s) r1)) (fun x=>x.1) (n,[a1,a2],r10) [0,1,3] ⟨Nat.le_refl _,i10,by dsimp only;omega,fun e=>by have:=y10 e;dsimp only;omega,by simp,by simp only [List.length_cons,List.length_nil];omega,hx⟩ ?_ ?_
 ·exact Conv.all (by simp only [EC,simprocAttr,PRN,TRN,TS,ztyC,Ap,List.map_cons,List.map_nil,List.length_cons,List.length_nil])
 clear y10 w9 w7
 rintro ⟨m,acc,r1⟩ ⟨hm,i1,hr0,hr,hne,hlen,hx⟩
 dsimp only at hm i1 hr0 hr hne hlen hx ⊢
 have hp:=Ez i1
 obtain ⟨m,rfl⟩:∃ k,m=k + 1:=⟨m - 1,by omega⟩
 replace hx:=hx.to fun _=>(by rw [Ic,Ae])
 refine Am fun K3 hK3=>?_
 refine WC.rs fun K hK=>?_
 simp only [↓EJ,FY,simprocAttr]
 refine CallX.tk hx i1 rfl rfl fun b2 r2 i2 q2 hx t2=>?_
 simp only [↓EJ,FY,simprocAttr]
 refine hK _ ?_;clear hK K
 refine WC.cond rfl (fun h=>?_) fun h=>?_
 ·cases h
  obtain ⟨e1,e2,y2⟩:=t2 rfl
  have hr:=hr e1
  dsimp only at hx
  rw [Ae] at hx
  refine WC.skip (hK3 _ ?_)
  refine WC.b1 ?_
  have w2:r2.e=0→RSem 148 [] ts r2 (Gu ts m r2.s) tyV:=fun e=>H m (by omega) r2 i2 (by omega)
  refine Dn [⟨0,0,true,[]⟩,⟨1,0,true,[]⟩,⟨2,0,false,[]⟩,⟨3,1,false,[0,1]⟩,⟨4,2,false,[]⟩,⟨5,1,false,[]⟩,⟨6,0,false,[]⟩,⟨7,1,false,[]⟩] [0,1,0,4,12,31,63,127] ?_
  simp only [↓EJ,FY,simprocAttr,TS]
  refine Ad hx (Jz ts m r2 i2 w2) (by simp only [CL,PCL,TCL,and_self]) B2 rfl rfl fun a r3 i3 q3 h3 hx=>?_
  simp only [↓EJ,FY,simprocAttr,TS]
  refine ⟨by rw [List.length_map],by omega,by omega,?_⟩
  try simp only [EQ,simprocAttr]
  refine ⟨(m,acc ++ [a],r3),[0,1,3],⟨by dsimp only;omega,i3,by dsimp only;omega,fun _=>by dsimp only;omega,by simp,by simp only [List.length_append,List.length_cons,List.length_nil];omega,hx⟩,by dsimp only;omega,?_⟩
  exact Conv.all (by simp only [EC,simprocAttr,PRN,TRN,TS,Ap,Aw,List.map_append,List.map_cons,List.map_nil,List.length_append,List.length_cons,List.length_nil])
 cases h
 dsimp only at hx
 rw [Ay] at hx
 refine WC.exit (hK1 _ ?_)
 refine WC.rs fun K hK=>?_
 simp only [↓EJ,FY,simprocAttr]
 refine Ad hx (A0 ts r2 i2 [41]) (by simp only [CL,PCL,TCL,and_self]) (fun _ _=>rfl) rfl rfl fun u r3 i3 q3 h3 hx=>?_
 simp only [↓EJ,FY,simprocAttr]
 refine hK _ ?_;clear hK K
 refine Dy 1 2 4 rfl rfl rfl (by decide) (by simp) ?_
 refine WC.rs fun K hK=>?_
 simp only [↓EJ,FY,simprocAttr,TS]
 refine hK _ ?_;clear hK K
 refine WC.ret ?_
 simp only [↓EJ,FY,simprocAttr,EQ,EF,Tryz.results148]
 have hp:PVal.agg [.int .i64 5,.int .i64 0,.int .i64 0,.int .i64 0,.slc (List.take acc.length (List.map tyV acc))]=tyV (.mk 5 0 0 0 acc):=by
  rw [Jv,P3 hne,List.take_of_length_le (by simp)];rfl
 exact RSem.done (hx (.mk 5 0 0 0 acc) r3 (RelV.ok i3)) hp (B2 _) rfl
theorem rtAll (ts:List Tok):∀ n r,PInv ts r.s→2 * rem ts r.s + 1≤n→RSem 148 [] ts r (Gu ts n r.s) tyV:=fun n=>by
 induction n using Nat.strongRecOn with
 | _ n ih =>
   cases n with
   | zero=>exact fun r _ h=>by omega
   | succ n=>exact fun r i h=>Ym ts n (fun m hm=>ih m (by omega)) r i h
theorem rnext_sem (ts:List Tok) (r:RS) (i:PInv ts r.s):RSem 132 [] ts r (typG ts r.s) tyV:=Jz ts _ r i fun _=>rtAll ts _ r i (Nat.le_refl _)
end Go.LexSem
-- TIGHT
-- CLOSERS: PCL,TCL,DCL,FCL,RCL
set_option maxHeartbeats 8000000
set_option maxRecDepth 8000
namespace Go.LexSem
open Go Go.V Go.Proofs Go.Num

theorem Zb (e:Ex):Dv [e]=.slc [.agg (exC e)]:=by rw [E1 (by simp)];simp [exV]
def drawR (ts:List Tok) (s:PS):PR Dr:=bnd (Ak ts [102,108,105,112] s) fun b s=>match b with
 | true=>bnd (Ah ts [[40]] s) fun _ s=>bnd (Hr ts s) fun e s=>bnd (Ah ts [[41]] s) fun _ s=>.ok (⟨1,0,0,zr,zr,[e],[]⟩,s)
 | false=>bnd (Ak ts [117,110,105,102,111,114,109] s) fun b s=>match b with
 | true=>bnd (Ah ts [[40]] s) fun _ s=>bnd (Cj ts s) fun lo s=>bnd (Ah ts [[44]] s) fun _ s=>bnd (Cj ts s) fun hi s=>bnd (Ah ts [[41]] s) fun _ s=>.ok (⟨2,lo,hi,zr,zr,[],[]⟩,s)
 | false=>bnd (Ak ts [116,97,98,108,101] s) fun b s=>match b with
 | true=>bnd (Ah ts [[40]] s) fun _ s=>bnd (Cj ts s) fun lo s=>bnd (Ah ts [[59]] s) fun _ s=>bnd (Iq ts s) fun l s=>bnd (Ah ts [[41]] s) fun _ s=>.ok (⟨3,lo,0,zr,zr,l,[]⟩,s)
 | false=>bnd (Ak ts [98,105,110,111,109,105,97,108] s) fun b s=>match b with
 | true=>bnd (Ah ts [[40]] s) fun _ s=>bnd (Bu ts s) fun hi s=>bnd (Ah ts [[44]] s) fun _ s=>bnd (Hr ts s) fun e s=>bnd (Ah ts [[41]] s) fun _ s=>.ok (⟨4,0,hi,zr,zr,[e],[]⟩,s)
 | false=>bnd (Ak ts [103,101,111,109,101,116,114,105,99] s) fun b s=>match b with
 | true=>bnd (Ah ts [[40]] s) fun _ s=>bnd (Dm ts s) fun q s=>bnd (Ah ts [[41]] s) fun _ s=>.ok (⟨5,0,0,q,zr,[],[]⟩,s)
 | false=>bnd (Ak ts [105,110,116,101,114,118,97,108] s) fun b s=>match b with
 | true=>bnd (Ah ts [[40]] s) fun _ s=>bnd (Dm ts s) fun q s=>bnd (Ah ts [[44]] s) fun _ s=>bnd (Dm ts s) fun q2 s=>bnd (Ah ts [[41]] s) fun _ s=>.ok (⟨6,0,0,q,q2,[],[]⟩,s)
 | false=>bnd (Ak ts [98,101,116,97] s) fun b s=>match b with
 | true=>bnd (Ah ts [[40]] s) fun _ s=>bnd (Bu ts s) fun lo s=>bnd (Ah ts [[44]] s) fun _ s=>bnd (Bu ts s) fun hi s=>bnd (Ah ts [[41]] s) fun _ s=>.ok (⟨7,lo,hi,zr,zr,[],[]⟩,s)
 | false=>bnd (Ah ts [[112,111,115,116,101,114,105,111,114]] s) fun _ s=>bnd (C2 ts s) fun w s=>.ok (⟨8,0,0,zr,zr,[],w⟩,s)
theorem Pq {ts:List Tok} {s:PS} {t:List UInt8} (h:isP ts s t=true) (ho:Cz t=false):Ak ts t s=.ok (true,⟨s.at_ + 1,Et t s.opn⟩):=by rw [Ak,if_neg (by simp [h]),if_neg (by simp [ho])]
theorem draw_eq (ts:List Tok) (s:PS):Hs ts s=drawR ts s:=by
 simp only [Hs,Ow,drawR]
 cases p0:isP ts s [112,111,115,116,101,114,105,111,114] with
 | true =>
   simp only [Pq p0 rfl,Bk (Fa p0 (b:=[102,108,105,112]) (by decide)),Bk (Fa p0 (b:=[117,110,105,102,111,114,109]) (by decide)),Bk (Fa p0 (b:=[116,97,98,108,101]) (by decide)),Bk (Fa p0 (b:=[98,105,110,111,109,105,97,108]) (by decide)),Bk (Fa p0 (b:=[103,101,111,109,101,116,114,105,99]) (by decide)),Bk (Fa p0 (b:=[105,110,116,101,114,118,97,108]) (by decide)),Bk (Fa p0 (b:=[98,101,116,97]) (by decide)),N0,Ae,Ay]
 | false =>
 cases p1:isP ts s [102,108,105,112] with
 | true=>simp only [Bk p0,Pq p1 rfl,Ae,Ay]
 | false =>
 cases p2:isP ts s [117,110,105,102,111,114,109] with
 | true=>simp only [Bk p0,Pq p2 rfl,Bk p1,Ae,Ay]
 | false =>
 cases p3:isP ts s [116,97,98,108,101] with
 | true=>simp only [Bk p0,Pq p3 rfl,Bk p1,Bk p2,Ae,Ay]
 | false =>
 cases p4:isP ts s [98,105,110,111,109,105,97,108] with
 | true=>simp only [Bk p0,Pq p4 rfl,Bk p1,Bk p2,Bk p3,Ae,Ay]
 | false =>
 cases p5:isP ts s [103,101,111,109,101,116,114,105,99] with
 | true=>simp only [Bk p0,Pq p5 rfl,Bk p1,Bk p2,Bk p3,Bk p4,Ae,Ay]
 | false =>
 cases p6:isP ts s [105,110,116,101,114,118,97,108] with
 | true=>simp only [Bk p0,Pq p6 rfl,Bk p1,Bk p2,Bk p3,Bk p4,Bk p5,Ae,Ay]
 | false =>
 cases p7:isP ts s [98,101,116,97] with
 | true=>simp only [Bk p0,Pq p7 rfl,Bk p1,Bk p2,Bk p3,Bk p4,Bk p5,Bk p6,Ae,Ay]
 | false =>
 simp only [Bk p0,Bk p1,Bk p2,Bk p3,Bk p4,Bk p5,Bk p6,Bk p7,N0,Ae,Ay,F8]
theorem rdraw_sem {ts:List Tok} (W:RTk ts) (r1:RS) (i1:PInv ts r1.s):RSem 177 [] ts r1 (Hs ts r1.s) drV:=by
 have hx:=cy0 (ts:=ts) (r:=r1) (x:=Hs ts r1.s)
 replace hx:=hx.to fun _=>(by rw [draw_eq,drawR])
 unfold RSem
 refine FSem.en 102 Tryz.func177 ?_
 simp only [Aj]
 refine WC.go ?_
 refine WC.go ?_
 refine Bt (X:=Dr × RS) (fun y=>PInv ts y.2.s∧Cy ts (bnd (Ah ts [[41]] y.2.s) fun _ s=>.ok (y.1,s)) y.2 (RelV ts (Hs ts r1.s) r1)) (fun y=>⟨[(3,.ptr (.l 1) 0 0),(2,.ptr (.l 0) 0 0),(0,.ptr (.o 0) 0 0)],[Bj ts y.2],[.row [.agg [.int .i64 0,.int .i64 0,.int .i64 0,.bool false,.nils,.nils,.bool false,.nils,.nils,.nils,.str []]] 11 59,.row [.agg (drC y.1)] 11 59],[]⟩) ?_ ?_
 ·refine WC.b1 ?_
  refine WC.rs fun K hK=>?_
  simp only [↓EJ,FY,simprocAttr]
  refine CallX.tk hx i1 rfl rfl fun b2 r2 i2 q2 hx t2=>?_
  simp only [↓EJ,FY,simprocAttr]
  refine hK _ ?_;clear hK K
  refine WC.cond rfl (fun h=>?_) fun h=>?_
  ·cases h
   dsimp only at hx
   refine WC.go ?_
   refine WC.rs fun K hK=>?_
   simp only [↓EJ,FY,simprocAttr]
   refine Ad hx (A0 ts r2 i2 [40]) (by simp only [CL,PCL,TCL,DCL,FCL,RCL,and_self]) (fun _ _=>rfl) rfl rfl fun u r3 i3 q3 h3 hx=>?_
   simp only [↓EJ,FY,simprocAttr]
   refine hK _ (Aa [0,2,3,19,33,47,62,71,85] ?_);clear hK K
   refine F9 [2] ?_
   simp only [↓EJ,FY,simprocAttr,EZ]
   refine Ad hx (G4 W r3 i3) (by simp only [CL,PCL,TCL,DCL,FCL,RCL,and_self]) Au rfl rfl fun e r4 i4 q4 h4 hx=>?_
   simp only [↓EJ,FY,simprocAttr,EZ,XS]
   try simp only [EQ,simprocAttr]
   refine ⟨(⟨1,0,0,zr,zr,[e],[]⟩,r4),[0,1],⟨i4,hx⟩,?_⟩
   have hd:drC ⟨1,0,0,zr,zr,[e],[]⟩=[.int .i64 1,.int .i64 0,.int .i64 0,.bool false,.nils,.nils,.bool false,.nils,.nils,.slc [.agg (exC e)],.str []]:=by simp only [drC,Zb,C5];rfl
   dsimp only
   rw [hd]
   exact Conv.all (by simp only [EC,simprocAttr,PRN,Ap,XS])
  cases h
  dsimp only at hx
  refine WC.rs fun K hK=>?_
  simp only [↓EJ,FY,simprocAttr]
  refine CallX.tk hx i2 rfl rfl fun b3 r3 i3 q3 hx t3=>?_
  simp only [↓EJ,FY,simprocAttr]
  refine hK _ ?_;clear hK K
  refine WC.cond rfl (fun h=>?_) fun h=>?_
  ·cases h
   dsimp only at hx
   refine WC.go ?_
   refine WC.rs fun K hK=>?_
   simp only [↓EJ,FY,simprocAttr]
   refine Ad hx (A0 ts r3 i3 [40]) (by simp only [CL,PCL,TCL,DCL,FCL,RCL,and_self]) (fun _ _=>rfl) rfl rfl fun u r4 i4 q4 h4 hx=>?_
   simp only [↓EJ,FY,simprocAttr]
   refine hK _ (Aa [0,2,3,33,47,62,71,85] ?_);clear hK K
   refine WC.rs fun K hK=>?_
   simp only [↓EJ,FY,simprocAttr]
   refine Ad hx (Gf ts r4 i4) (by simp only [CL,PCL,TCL,DCL,FCL,RCL,and_self]) (fun _ _=>rfl) rfl rfl fun lo r5 i5 q5 h5 hx=>?_
   simp only [↓EJ,FY,simprocAttr,Bc]
   refine hK _ ?_;clear hK K
   refine WC.rs fun K hK=>?_
   simp only [↓EJ,FY,simprocAttr]
   refine Ad hx (A0 ts r5 i5 [44]) (by simp only [CL,PCL,TCL,DCL,FCL,RCL,and_self]) (fun _ _=>rfl) rfl rfl fun u r6 i6 q6 h6 hx=>?_
   simp only [↓EJ,FY,simprocAttr]
   refine hK _ ?_;clear hK K
   refine WC.r1 ?_
   simp only [↓EJ,FY,simprocAttr]
   refine Ad hx (Gf ts r6 i6) (by simp only [CL,PCL,TCL,DCL,FCL,RCL,and_self]) (fun _ _=>rfl) rfl rfl fun hi r7 i7 q7 h7 hx=>?_
   simp only [↓EJ,FY,simprocAttr,Bc]
   try simp only [EQ,simprocAttr]
   refine ⟨(⟨2,lo,hi,zr,zr,[],[]⟩,r7),[0,1],⟨i7,hx⟩,?_⟩
   have hd:drC ⟨2,lo,hi,zr,zr,[],[]⟩=[.int .i64 2,.int .i64 lo,.int .i64 hi,.bool false,.nils,.nils,.bool false,.nils,.nils,.nils,.str []]:=by simp only [drC,Zb,C5];rfl
   dsimp only
   rw [hd]
   exact Conv.all (by simp only [EC,simprocAttr,PRN,Ap,XS])
  cases h
  dsimp only at hx
  refine WC.rs fun K hK=>?_
  simp only [↓EJ,FY,simprocAttr]
  refine CallX.tk hx i3 rfl rfl fun b4 r4 i4 q4 hx t4=>?_
  simp only [↓EJ,FY,simprocAttr]
  refine hK _ (Aa [0,2,3,33,47,62,71,85] ?_);clear hK K
  refine WC.cond rfl (fun h=>?_) fun h=>?_
  ·cases h
   dsimp only at hx
   refine WC.go ?_
   refine WC.rs fun K hK=>?_
   simp only [↓EJ,FY,simprocAttr]
   refine Ad hx (A0 ts r4 i4 [40]) (by simp only [CL,PCL,TCL,DCL,FCL,RCL,and_self]) (fun _ _=>rfl) rfl rfl fun u r5 i5 q5 h5 hx=>?_
   simp only [↓EJ,FY,simprocAttr]
   refine hK _ ?_;clear hK K
   refine WC.rs fun K hK=>?_
   simp only [↓EJ,FY,simprocAttr]
   refine Ad hx (Gf ts r5 i5) (by simp only [CL,PCL,TCL,DCL,FCL,RCL,and_self]) (fun _ _=>rfl) rfl rfl fun lo r6 i6 q6 h6 hx=>?_
   simp only [↓EJ,FY,simprocAttr,Bc]
   refine hK _ (Aa [0,2,3,47,62,71,85] ?_);clear hK K
   refine WC.rs fun K hK=>?_
   simp only [↓EJ,FY,simprocAttr]
   refine Ad hx (A0 ts r6 i6 [59]) (by simp only [CL,PCL,TCL,DCL,FCL,RCL,and_self]) (fun _ _=>rfl) rfl rfl fun u r7 i7 q7 h7 hx=>?_
   simp only [↓EJ,FY,simprocAttr]
   refine hK _ ?_;clear hK K
   refine WC.r1 ?_
   simp only [↓EJ,FY,simprocAttr]
   refine Ad hx (S6 W r7 i7) (by simp only [CL,PCL,TCL,DCL,FCL,RCL,and_self]) Fc rfl rfl fun l r8 i8 q8 h8 hx=>?_
   simp only [↓EJ,FY,simprocAttr,Bc]
   try simp only [EQ,simprocAttr]
   refine ⟨(⟨3,lo,0,zr,zr,l,[]⟩,r8),[0,1],⟨i8,hx⟩,?_⟩
   have hd:drC ⟨3,lo,0,zr,zr,l,[]⟩=[.int .i64 3,.int .i64 lo,.int .i64 0,.bool false,.nils,.nils,.bool false,.nils,.nils,Dv l,.str []]:=by simp only [drC,Zb,C5];rfl
   dsimp only
   rw [hd]
   exact Conv.all (by simp only [EC,simprocAttr,PRN,Ap,XS])
  cases h
  dsimp only at hx
  refine WC.rs fun K hK=>?_
  simp only [↓EJ,FY,simprocAttr]
  refine CallX.tk hx i4 rfl rfl fun b5 r5 i5 q5 hx t5=>?_
  simp only [↓EJ,FY,simprocAttr]
  refine hK _ ?_;clear hK K
  refine WC.cond rfl (fun h=>?_) fun h=>?_
  ·cases h
   dsimp only at hx
   refine WC.go (Aa [0,2,3,62,71,85] ?_)
   refine WC.rs fun K hK=>?_
   simp only [↓EJ,FY,simprocAttr]
   refine Ad hx (A0 ts r5 i5 [40]) (by simp only [CL,PCL,TCL,DCL,FCL,RCL,and_self]) (fun _ _=>rfl) rfl rfl fun u r6 i6 q6 h6 hx=>?_
   simp only [↓EJ,FY,simprocAttr]
   refine hK _ ?_;clear hK K
   refine WC.rs fun K hK=>?_
   simp only [↓EJ,FY,simprocAttr]
   refine Ad hx (C8 ts r6 i6) (by simp only [CL,PCL,TCL,DCL,FCL,RCL,and_self]) (fun _ _=>rfl) rfl rfl fun hi r7 i7 q7 h7 hx=>?_
   simp only [↓EJ,FY,simprocAttr,Bc]
   refine hK _ ?_;clear hK K
   refine WC.rs fun K hK=>?_
   simp only [↓EJ,FY,simprocAttr]
   refine Ad hx (A0 ts r7 i7 [44]) (by simp only [CL,PCL,TCL,DCL,FCL,RCL,and_self]) (fun _ _=>rfl) rfl rfl fun u r8 i8 q8 h8 hx=>?_
   simp only [↓EJ,FY,simprocAttr]
   refine hK _ (Aa [0,2,3,62,71,85] ?_);clear hK K
   refine F9 [2] ?_
   simp only [↓EJ,FY,simprocAttr,EZ]
   refine Ad hx (G4 W r8 i8) (by simp only [CL,PCL,TCL,DCL,FCL,RCL,and_self]) Au rfl rfl fun e r9 i9 q9 h9 hx=>?_
   simp only [↓EJ,FY,simprocAttr,EZ,XS]
   try simp only [EQ,simprocAttr]
   refine ⟨(⟨4,0,hi,zr,zr,[e],[]⟩,r9),[0,1],⟨i9,hx⟩,?_⟩
   have hd:drC ⟨4,0,hi,zr,zr,[e],[]⟩=[.int .i64 4,.int .i64 0,.int .i64 hi,.bool false,.nils,.nils,.bool false,.nils,.nils,.slc [.agg (exC e)],.str []]:=by simp only [drC,Zb,C5];rfl
   dsimp only
   rw [hd]
   exact Conv.all (by simp only [EC,simprocAttr,PRN,Ap,XS])
  cases h
  dsimp only at hx
  refine WC.rs fun K hK=>?_
  simp only [↓EJ,FY,simprocAttr]
  refine CallX.tk hx i5 rfl rfl fun b6 r6 i6 q6 hx t6=>?_
  simp only [↓EJ,FY,simprocAttr]
  refine hK _ ?_;clear hK K
  refine WC.cond rfl (fun h=>?_) fun h=>?_
  ·cases h
   dsimp only at hx
   refine WC.go ?_
   refine WC.rs fun K hK=>?_
   simp only [↓EJ,FY,simprocAttr]
   refine Ad hx (A0 ts r6 i6 [40]) (by simp only [CL,PCL,TCL,DCL,FCL,RCL,and_self]) (fun _ _=>rfl) rfl rfl fun u r7 i7 q7 h7 hx=>?_
   simp only [↓EJ,FY,simprocAttr]
   refine hK _ (Aa [0,2,3,71,85] ?_);clear hK K
   refine WC.r1 ?_
   simp only [↓EJ,FY,simprocAttr]
   refine Ad hx (W.f r7 i7) (by simp only [CL,and_self]) Lk rfl rfl fun q r8 i8 q8 h8 hx=>?_
   simp only [↓EJ,FY,simprocAttr,Pk]
   try simp only [EQ,simprocAttr]
   refine ⟨(⟨5,0,0,q,zr,[],[]⟩,r8),[0,1],⟨i8,hx⟩,?_⟩
   have hd:drC ⟨5,0,0,q,zr,[],[]⟩=[.int .i64 5,.int .i64 0,.int .i64 0,.bool q.1,A8 q.2.1,A8 q.2.2,.bool false,.nils,.nils,.nils,.str []]:=by simp only [drC,Zb,C5];rfl
   dsimp only
   rw [hd]
   exact Conv.all (by simp only [EC,simprocAttr,PRN,Ap,XS])
  cases h
  dsimp only at hx
  refine WC.rs fun K hK=>?_
  simp only [↓EJ,FY,simprocAttr]
  refine CallX.tk hx i6 rfl rfl fun b7 r7 i7 q7 hx t7=>?_
  simp only [↓EJ,FY,simprocAttr]
  refine hK _ ?_;clear hK K
  refine WC.cond rfl (fun h=>?_) fun h=>?_
  ·cases h
   dsimp only at hx
   refine WC.go ?_
   refine WC.rs fun K hK=>?_
   simp only [↓EJ,FY,simprocAttr]
   refine Ad hx (A0 ts r7 i7 [40]) (by simp only [CL,PCL,TCL,DCL,FCL,RCL,and_self]) (fun _ _=>rfl) rfl rfl fun u r8 i8 q8 h8 hx=>?_
   simp only [↓EJ,FY,simprocAttr]
   refine hK _ (Aa [0,2,3,85] ?_);clear hK K
   refine WC.rs fun K hK=>?_
   simp only [↓EJ,FY,simprocAttr]
   refine Ad hx (W.f r8 i8) (by simp only [CL,and_self]) Lk rfl rfl fun q r9 i9 q9 h9 hx=>?_
   simp only [↓EJ,FY,simprocAttr,Pk]
   refine hK _ ?_;clear hK K
   refine WC.rs fun K hK=>?_
   simp only [↓EJ,FY,simprocAttr]
   refine Ad hx (A0 ts r9 i9 [44]) (by simp only [CL,PCL,TCL,DCL,FCL,RCL,and_self]) (fun _ _=>rfl) rfl rfl fun u r10 i10 q10 h10 hx=>?_
   simp only [↓EJ,FY,simprocAttr]
   refine hK _ ?_;clear hK K
   refine WC.r1 ?_
   simp only [↓EJ,FY,simprocAttr]
   refine Ad hx (W.f r10 i10) (by simp only [CL,and_self]) Lk rfl rfl fun q2 r11 i11 q11 h11 hx=>?_
   simp only [↓EJ,FY,simprocAttr,Pk]
   try simp only [EQ,simprocAttr]
   refine ⟨(⟨6,0,0,q,q2,[],[]⟩,r11),[0,1],⟨i11,hx⟩,?_⟩
   have hd:drC ⟨6,0,0,q,q2,[],[]⟩=[.int .i64 6,.int .i64 0,.int .i64 0,.bool q.1,A8 q.2.1,A8 q.2.2,.bool q2.1,A8 q2.2.1,A8 q2.2.2,.nils,.str []]:=by simp only [drC,Zb,C5];rfl
   dsimp only
   rw [hd]
   exact Conv.all (by simp only [EC,simprocAttr,PRN,Ap,XS])
  cases h
  dsimp only at hx
  refine WC.rs fun K hK=>?_
  simp only [↓EJ,FY,simprocAttr]
  refine CallX.tk hx i7 rfl rfl fun b8 r8 i8 q8 hx t8=>?_
  simp only [↓EJ,FY,simprocAttr]
  refine hK _ (Aa [0,2,3,85] ?_);clear hK K
  refine WC.cond rfl (fun h=>?_) fun h=>?_
  ·cases h
   dsimp only at hx
   refine WC.go ?_
   refine WC.rs fun K hK=>?_
   simp only [↓EJ,FY,simprocAttr]
   refine Ad hx (A0 ts r8 i8 [40]) (by simp only [CL,PCL,TCL,DCL,FCL,RCL,and_self]) (fun _ _=>rfl) rfl rfl fun u r9 i9 q9 h9 hx=>?_
   simp only [↓EJ,FY,simprocAttr]
   refine hK _ ?_;clear hK K
   refine WC.rs fun K hK=>?_
   simp only [↓EJ,FY,simprocAttr]
   refine Ad hx (C8 ts r9 i9) (by simp only [CL,PCL,TCL,DCL,FCL,RCL,and_self]) (fun _ _=>rfl) rfl rfl fun lo r10 i10 q10 h10 hx=>?_
   simp only [↓EJ,FY,simprocAttr,Bc]
   refine hK _ (Aa [0,2,3] ?_);clear hK K
   refine WC.rs fun K hK=>?_
   simp only [↓EJ,FY,simprocAttr]
   refine Ad hx (A0 ts r10 i10 [44]) (by simp only [CL,PCL,TCL,DCL,FCL,RCL,and_self]) (fun _ _=>rfl) rfl rfl fun u r11 i11 q11 h11 hx=>?_
   simp only [↓EJ,FY,simprocAttr]
   refine hK _ ?_;clear hK K
   refine WC.r1 ?_
   simp only [↓EJ,FY,simprocAttr]
   refine Ad hx (C8 ts r11 i11) (by simp only [CL,PCL,TCL,DCL,FCL,RCL,and_self]) (fun _ _=>rfl) rfl rfl fun hi r12 i12 q12 h12 hx=>?_
   simp only [↓EJ,FY,simprocAttr,Bc]
   try simp only [EQ,simprocAttr]
   refine ⟨(⟨7,lo,hi,zr,zr,[],[]⟩,r12),[0,1],⟨i12,hx⟩,?_⟩
   have hd:drC ⟨7,lo,hi,zr,zr,[],[]⟩=[.int .i64 7,.int .i64 lo,.int .i64 hi,.bool false,.nils,.nils,.bool false,.nils,.nils,.nils,.str []]:=by simp only [drC,Zb,C5];rfl
   dsimp only
   rw [hd]
   exact Conv.all (by simp only [EC,simprocAttr,PRN,Ap,XS])
  cases h
  dsimp only at hx
  refine WC.rs fun K hK=>?_
  simp only [↓EJ,FY,simprocAttr]
  refine Ad hx (A0 ts r8 i8 [112,111,115,116,101,114,105,111,114]) (by simp only [CL,PCL,TCL,DCL,FCL,RCL,and_self]) (fun _ _=>rfl) rfl rfl fun u r9 i9 q9 h9 hx=>?_
  simp only [↓EJ,FY,simprocAttr]
  refine hK _ ?_;clear hK K
  refine WC.rs fun K hK=>?_
  simp only [↓EJ,FY,simprocAttr]
  refine Ad hx (Fj ts r9 i9) (by simp only [CL,PCL,TCL,DCL,FCL,RCL,and_self]) (fun _ _=>rfl) rfl rfl fun w r10 i10 q10 h10 hx=>?_
  simp only [↓EJ,FY,simprocAttr]
  refine hK _ (Aa [0,2,3] ?_);clear hK K
  refine WC.ret ?_
  simp only [↓EJ,FY,simprocAttr,EQ,EF,Tryz.results177]
  exact RSem.done (hx ⟨8,0,0,zr,zr,[],w⟩ r10 (RelV.ok i10)) (by rw [drV,drC,C5];rfl) (J9 _) rfl
 rintro ⟨d,r2⟩ ⟨i2,hx⟩
 dsimp only at i2 hx ⊢
 refine WC.rs fun K hK=>?_
 simp only [↓EJ,FY,simprocAttr]
 refine Ad hx (A0 ts r2 i2 [41]) (by simp only [CL,PCL,TCL,DCL,FCL,RCL,and_self]) (fun _ _=>rfl) rfl rfl fun u r3 i3 q3 h3 hx=>?_
 simp only [↓EJ,FY,simprocAttr]
 refine hK _ ?_;clear hK K
 refine WC.rs fun K hK=>?_
 simp only [↓EJ,FY,simprocAttr,U8,(show List.take 11 (drC d)=drC d from rfl)]
 refine hK _ ?_;clear hK K
 refine WC.ret ?_
 simp only [↓EJ,FY,simprocAttr,EQ,EF,Tryz.results177,U8,(show List.take 11 (drC d)=drC d from rfl)]
 exact RSem.done (hx d r3 (RelV.ok i3)) rfl (J9 _) rfl
end Go.LexSem
-- TIGHT
-- CLOSERS: PCL,TCL,DCL,FCL,RCL,MCL
set_option maxHeartbeats 16000000
set_option maxRecDepth 8000
namespace Go.LexSem
open Go Go.V Go.Proofs Go.Num

def Jc (ts:List Tok) (s:PS):Bool:=decide ((cur ts s).1=1) || (isP ts s [105,102] || (isP ts s [114,101,112,101,97,116] || (isP ts s [119,104,105,108,101] || (isP ts s [111,98,115,101,114,118,101] || (isP ts s [119,101,105,103,104,116])))))
def Fq (ts:List Tok):Nat→List Sm→PS→PR (List Sm)
 | 0,_,_=>.error Jq
 | n + 1,acc,s=>match Jc ts s with
   | true=>bnd (E4 ts n s) fun t s=>Fq ts n (acc ++ [t]) s
   | false=>.ok (acc,s)
def Lw (ts:List Tok) (s:PS):PR Sm:=bnd (C2 ts s) fun w s=>bnd (Ak ts [126] s) fun b s=>match b with
 | true=>bnd (Hs ts s) fun d s=>.ok (.mk 2 w [] 0 ze [] d [] [],s)
 | false=>bnd (Ah ts [[58,61]] s) fun _ s=>match G5 ts s with
   | true=>bnd (C2 ts s) fun f s=>bnd (Ah ts [[40]] s) fun _ s=>match isP ts s [41] with
     | true=>bnd (Ah ts [[41]] s) fun _ s=>.ok (.mk 3 w f 0 ze [] zd [] [],s)
     | false=>bnd (Iq ts s) fun l s=>bnd (Ah ts [[41]] s) fun _ s=>.ok (.mk 3 w f 0 ze l zd [] [],s)
   | false=>bnd (Hr ts s) fun e s=>.ok (.mk 1 w [] 0 e [] zd [] [],s)
def semiQ (ts:List Tok) (t:Sm) (s:PS):PR Sm:=bnd (Ah ts [[59]] s) fun _ s=>.ok (t,s)
theorem simple_eq (ts:List Tok) (s:PS):(bnd (C2 ts s) fun w s=>bnd (Ak ts [126] s) fun b s=>match b with
  | true=>bnd (Hs ts s) fun d s=>bnd (Ah ts [[59]] s) fun _ s=>.ok (.mk 2 w [] 0 ze [] d [] [],s)
  | false=>bnd (Ah ts [[58,61]] s) fun _ s=>match G5 ts s with
    | true=>bnd (C2 ts s) fun f s=>bnd (Ah ts [[40]] s) fun _ s=>match isP ts s [41] with
      | true=>bnd (Ah ts [[41]] s) fun _ s=>bnd (Ah ts [[59]] s) fun _ s=>.ok (.mk 3 w f 0 ze [] zd [] [],s)
      | false=>bnd (Iq ts s) fun l s=>bnd (Ah ts [[41]] s) fun _ s=>bnd (Ah ts [[59]] s) fun _ s=>.ok (.mk 3 w f 0 ze l zd [] [],s)
    | false=>bnd (Hr ts s) fun e s=>bnd (Ah ts [[59]] s) fun _ s=>.ok (.mk 1 w [] 0 e [] zd [] [],s))=bnd (Lw ts s) (semiQ ts):=by
 unfold Lw
 rcases C2 ts s with e | ⟨w,s⟩
 ·rfl
 simp only [Ay]
 rcases Ak ts [126] s with e | ⟨b,s⟩
 ·rfl
 simp only [Ay]
 cases b with
 | true =>
   dsimp only
   rcases Hs ts s with e | ⟨d,s⟩ <;> rfl
 | false =>
   dsimp only
   rcases Ah ts [[58,61]] s with e | ⟨u,s⟩
   ·rfl
   simp only [Ay]
   cases G5 ts s with
   | false =>
     dsimp only
     rcases Hr ts s with e | ⟨d,s⟩ <;> rfl
   | true =>
     dsimp only
     rcases C2 ts s with e | ⟨f,s⟩
     ·rfl
     simp only [Ay]
     rcases Ah ts [[40]] s with e | ⟨u,s⟩
     ·rfl
     simp only [Ay]
     cases isP ts s [41] with
     | true =>
       dsimp only
       rcases Ah ts [[41]] s with e | ⟨d,s⟩ <;> rfl
     | false =>
       dsimp only
       rcases Iq ts s with e | ⟨d,s⟩
       ·rfl
       simp only [Ay]
       rcases Ah ts [[41]] s with e | ⟨d,s⟩ <;> rfl
theorem Aba {ts:List Tok} {s:PS} (h:Jc ts s=false):(cur ts s).1≠1∧isP ts s [105,102]=false∧isP ts s [114,101,112,101,97,116]=false∧isP ts s [119,104,105,108,101]=false∧isP ts s [111,98,115,101,114,118,101]=false∧isP ts s [119,101,105,103,104,116]=false:=by simp only [Jc,Bool.or_eq_false_iff,decide_eq_false_iff_not] at h;exact h
theorem stmt_no {ts:List Tok} {s:PS} (h:Jc ts s=false) (n:Nat):E4 ts (n + 1) s=.error (Gr (cur ts s) 4):=by
 obtain ⟨h1,h2,h3,h4,h5,h6⟩:=Aba h
 have hn:C2 ts s=.error (Gr (cur ts s) 4):=by rw [C2,if_pos h1]
 rw [E4]
 simp only [Bk h2,Bk h3,Bk h4,Bk h5,Bk h6,Ay,hn,F8]
/-- Statements up to a word that no statement begins with. -/
theorem Q6 {ts:List Tok} {stop:List UInt8} (hs:stop ∉ [[105,102],[114,101,112,101,97,116],[119,104,105,108,101],[111,98,115,101,114,118,101],[119,101,105,103,104,116]]) {β:Type} (g:List Sm→Unit→PS→PR β):∀ (n:Nat) (acc:List Sm) (s:PS),PInv ts s→3 * rem ts s + 2≤n →
  bnd (Ek ts stop n acc s) (fun l s=>bnd (Ah ts [stop] s) (g l))=bnd (Fq ts n acc s) (fun l s=>bnd (Ah ts [stop] s) (g l))
 | 0,_,_,_,h=>by omega
 | n + 1,acc,s,i,h=>by
   have hp:=Ez i
   rw [Ek,Fq]
   cases hq:isP ts s stop with
   | true =>
     have h3:=isP_k hq
     have:Jc ts s=false:=by
      simp only [List.mem_cons,List.not_mem_nil,or_false,not_or] at hs
      simp only [Jc,Fa hq hs.1,Fa hq hs.2.1,Fa hq hs.2.2.1,Fa hq hs.2.2.2.1,Fa hq hs.2.2.2.2,Bool.or_false,decide_eq_false_iff_not]
      omega
     rw [this]
   | false =>
     cases hw:Jc ts s with
     | true =>
       simp only
       cases hst:E4 ts n s with
       | error e=>rfl
       | ok q =>
         obtain ⟨t,s1⟩:=q
         have g1:=(Sg ts n).stmt i hst
         have:=g1.rem
         simp only [Ay]
         exact Q6 hs g n (acc ++ [t]) s1 g1.1 (by omega)
     | false =>
       obtain ⟨n,rfl⟩:∃ k,n=k + 1:=⟨n - 1,by omega⟩
       simp only [stmt_no hw,F8,Ay,N0,Bk hq]
theorem stmts_ge {ts:List Tok}:∀ {n:Nat} {a l:List Sm} {s s':PS},PInv ts s→Fq ts n a s=.ok (l,s')→Ge ts s s'
 | 0,_,_,_,_,_,h=>by simp only [Fq] at h;cases h
 | n + 1,a,l,s,s',i,h=>by
   rw [Fq] at h
   split at h
   ·obtain ⟨t,s1,h1,h⟩:=Ac h
    have g1:=(Sg ts n).stmt i h1
    exact g1.ge.trans (stmts_ge g1.1 h)
   ·cases h;exact Ge.refl i
theorem Wn {ts:List Tok} (W:RTk ts) (r1:RS) (i1:PInv ts r1.s):RSem 152 [] ts r1 (Lw ts r1.s) smV:=by
 have hx:=cy0 (ts:=ts) (r:=r1) (x:=Lw ts r1.s)
 replace hx:=hx.to fun _=>(by rw [Lw])
 unfold RSem
 refine FSem.en 67 Tryz.func152 ?_
 simp only [Aj]
 refine WC.go ?_
 refine WC.rs fun K hK=>?_
 simp only [↓EJ,FY,simprocAttr]
 refine Ad hx (Fj ts r1 i1) (by simp only [CL,PCL,TCL,DCL,FCL,RCL,MCL,and_self]) (fun _ _=>rfl) rfl rfl fun w r2 i2 q2 h2 hx=>?_
 simp only [↓EJ,FY,simprocAttr]
 refine hK _ ?_;clear hK K
 refine Am fun K1 hK1=>?_
 refine WC.rs fun K hK=>?_
 simp only [↓EJ,FY,simprocAttr]
 refine CallX.tk hx i2 rfl rfl fun b3 r3 i3 q3 hx t3=>?_
 simp only [↓EJ,FY,simprocAttr]
 refine hK _ ?_;clear hK K
 refine WC.cond rfl (fun h=>?_) fun h=>?_
 ·cases h
  dsimp only at hx
  refine WC.go (Aa [0,2,3,47,56] ?_)
  refine WC.rs fun K hK=>?_
  simp only [↓EJ,FY,simprocAttr]
  refine Ad hx (rdraw_sem W r3 i3) (by simp only [CL,PCL,TCL,DCL,FCL,RCL,MCL,and_self]) J9 rfl rfl fun d r4 i4 q4 h4 hx=>?_
  simp only [↓EJ,FY,simprocAttr,drV,drC]
  refine hK _ ?_;clear hK K
  refine WC.go ?_
  refine WC.ret ?_
  simp only [↓EJ,FY,simprocAttr,EQ,EF,Tryz.results152]
  exact RSem.done (hx (.mk 2 w [] 0 ze [] d [] []) r4 (RelV.ok i4)) rfl (Cx _) rfl
 cases h
 dsimp only at hx
 refine WC.skip (hK1 _ ?_)
 refine WC.rs fun K hK=>?_
 simp only [↓EJ,FY,simprocAttr]
 refine Ad hx (A0 ts r3 i3 [58,61]) (by simp only [CL,PCL,TCL,DCL,FCL,RCL,MCL,and_self]) (fun _ _=>rfl) rfl rfl fun u r4 i4 q4 h4 hx=>?_
 simp only [↓EJ,FY,simprocAttr]
 refine hK _ (Aa [0,2,3,47,56] ?_);clear hK K
 refine Am fun K1 hK1=>?_
 refine Bt (X:=Bool) (fun b=>(b=true→r4.e=0∧G5 ts r4.s=true)∧(b=false→r4.e=0→G5 ts r4.s=false)) (fun b=>⟨[(47,.bool b),(3,.ptr (.l 1) 0 0),(2,.ptr (.l 0) 0 0),(0,.ptr (.o 0) 0 0)],[Bj ts r4],[.row [.agg [.int .i64 0,.str [],.str [],.int .i64 0,.int .i64 0,.int .i64 0,.bool false,.nils,.nils,.str [],.nils,.nils,.int .i64 0,.int .i64 0,.int .i64 0,.bool false,.nils,.nils,.bool false,.nils,.nils,.nils,.str [],.nils,.nils]] 25 61,.row [.agg [.int .i64 1,.str w,.str [],.int .i64 0,.int .i64 0,.int .i64 0,.bool false,.nils,.nils,.str [],.nils,.nils,.int .i64 0,.int .i64 0,.int .i64 0,.bool false,.nils,.nils,.bool false,.nils,.nils,.nils,.str [],.nils,.nils]] 25 61],[]⟩) ?_ ?_
 ·refine Dn [⟨0,0,false,[]⟩,⟨1,1,false,[]⟩,⟨2,0,false,[]⟩,⟨3,0,false,[]⟩,⟨4,0,false,[]⟩,⟨5,0,false,[]⟩,⟨6,0,false,[]⟩,⟨7,0,false,[]⟩,⟨8,0,false,[]⟩,⟨9,0,false,[]⟩,⟨10,0,false,[]⟩,⟨11,0,false,[]⟩,⟨12,0,false,[]⟩,⟨13,0,false,[]⟩,⟨14,0,false,[]⟩,⟨15,0,false,[]⟩,⟨16,0,false,[]⟩,⟨17,0,false,[]⟩,⟨18,0,false,[]⟩,⟨19,0,false,[]⟩,⟨20,0,false,[]⟩,⟨21,0,false,[]⟩,⟨22,0,false,[]⟩,⟨23,0,false,[]⟩,⟨24,0,false,[]⟩,⟨25,0,false,[]⟩,⟨26,0,false,[]⟩,⟨27,0,false,[]⟩,⟨28,0,false,[]⟩,⟨29,0,false,[]⟩,⟨30,0,false,[]⟩,⟨31,0,false,[]⟩] [0,1,3,7,15,31,63,7,135,391,903,1927,4095,8191,16383,32767,65535,131071,262143,524287,1048575,2097151,262143,4456447,12845055,29622271,63176703,134217727,268435455,536870911,1073741823,2147483647] ?_
  simp only [↓EJ,FY,simprocAttr]
  refine CallX.kd i4 1 rfl rfl fun b hb=>?_
  cases b with
  | false =>
    simp only [↓EJ,FY,simprocAttr]
    try simp only [EQ,simprocAttr]
    refine ⟨false,[0,1],⟨fun h=>by (cases h),fun _ he=>?_⟩,?_⟩
    ·have:=hb.2 rfl he
     simp [G5,this]
    ·exact Conv.all (by simp only [EC,simprocAttr,Ap])
  | true =>
    obtain ⟨he,hk⟩:=hb.1 rfl
    have i5:=i4.go (o:=r4.s.opn) (by omega) (by omega) (by omega)
    have hlt:r4.s.at_ + 1 < ts.length:=i5.lt
    have hle:=i4.le
    have hg:=If hlt
    have hnx:nxt ts r4.s=ts.getD (r4.s.at_ + 1) (5,[],1,1):=by rw [nxt,Nat.min_eq_left (by omega)]
    rw [←hnx] at hg
    have hw:=w64 (x:=(r4.s.at_:Int) + 1) (by omega) (by omega)
    have ht:(((r4.s.at_:Int) + 1)).toNat=r4.s.at_ + 1:=by omega
    have hcl:G5 ts r4.s=(decide ((nxt ts r4.s).1=4) && decide ((nxt ts r4.s).2.1=[40])):=by simp [G5,hk]
    generalize nxt ts r4.s=t0 at *
    obtain ⟨k0,w0,l0,c0⟩:=t0
    by_cases h4:k0=4
    ·subst h4
     simp (maxSteps:=4000000) only [↓EJ,FY,simprocAttr,Bj,tks,List.length_map,hw,ht,hg,Bn,tkv,tk,Int.cast_ofNat_Int,Bool.not_true,Bool.not_false]
     repeat refine And.intro (by omega) ?_
     try simp only [EQ,simprocAttr]
     refine ⟨decide (w0=[40]),[0,1],⟨fun h=>⟨he,by rw [hcl];simpa using h⟩,fun h _=>by rw [hcl];simpa using h⟩,?_⟩
     exact Conv.all (by simp only [EC,simprocAttr,Bj,tks,Ap,Cb _ _])
    ·have e4:((k0:Int)=4)=False:=eq_false (by omega)
     simp (maxSteps:=4000000) only [↓EJ,FY,simprocAttr,Bj,tks,List.length_map,hw,ht,hg,Bn,tkv,tk,e4,Bool.not_true,Bool.not_false]
     repeat refine And.intro (by omega) ?_
     try simp only [EQ,simprocAttr]
     refine ⟨false,[0,1],⟨fun h=>by (cases h),fun _ _=>by rw [hcl];simp [h4]⟩,?_⟩
     exact Conv.all (by simp only [EC,simprocAttr,Bj,tks,Ap,Cb _ _])
 rintro b hb
 refine WC.cond rfl (fun h=>?_) fun h=>?_
 ·subst h
  replace hx:=hx.to fun he=>(by simp only [(hb.1 rfl).2];exact rfl)
  refine WC.rs fun K hK=>?_
  simp only [↓EJ,FY,simprocAttr]
  refine Ad hx (Fj ts r4 i4) (by simp only [CL,PCL,TCL,DCL,FCL,RCL,MCL,and_self]) (fun _ _=>rfl) rfl rfl fun f r5 i5 q5 h5 hx=>?_
  simp only [↓EJ,FY,simprocAttr]
  refine hK _ ?_;clear hK K
  refine WC.rs fun K hK=>?_
  simp only [↓EJ,FY,simprocAttr]
  refine Ad hx (A0 ts r5 i5 [40]) (by simp only [CL,PCL,TCL,DCL,FCL,RCL,MCL,and_self]) (fun _ _=>rfl) rfl rfl fun u r6 i6 q6 h6 hx=>?_
  simp only [↓EJ,FY,simprocAttr]
  refine hK _ (Aa [0,2,3,47,56] ?_);clear hK K
  refine Bt (X:=List Ex × RS) (fun y=>PInv ts y.2.s∧Cy ts (bnd (Ah ts [[41]] y.2.s) fun _ s=>.ok (.mk 3 w f 0 ze y.1 zd [] [],s)) y.2 (RelV ts (Lw ts r1.s) r1)) (fun y=>⟨[(3,.ptr (.l 1) 0 0),(2,.ptr (.l 0) 0 0),(0,.ptr (.o 0) 0 0)],[Bj ts y.2],[.row [.agg [.int .i64 0,.str [],.str [],.int .i64 0,.int .i64 0,.int .i64 0,.bool false,.nils,.nils,.str [],.nils,.nils,.int .i64 0,.int .i64 0,.int .i64 0,.bool false,.nils,.nils,.bool false,.nils,.nils,.nils,.str [],.nils,.nils]] 25 61,.row [.agg [.int .i64 3,.str w,.str f,.int .i64 0,.int .i64 0,.int .i64 0,.bool false,.nils,.nils,.str [],.nils,Dv y.1,.int .i64 0,.int .i64 0,.int .i64 0,.bool false,.nils,.nils,.bool false,.nils,.nils,.nils,.str [],.nils,.nils]] 25 61],[]⟩) ?_ ?_
  ·refine WC.rs fun K hK=>?_
   simp only [↓EJ,FY,simprocAttr]
   refine Fz i6 [41] rfl rfl fun b hb=>?_
   simp only [↓EJ,FY,simprocAttr]
   refine hK _ ?_;clear hK K
   refine WC.cond rfl (fun h=>?_) fun h=>?_
   ·obtain rfl:b=false:=by simpa using h
    replace hx:=hx.to fun he=>(by simp only [hb.2 rfl he];exact rfl)
    refine WC.r1 ?_
    simp only [↓EJ,FY,simprocAttr]
    refine Ad hx (S6 W r6 i6) (by simp only [CL,PCL,TCL,DCL,FCL,RCL,MCL,and_self]) Fc rfl rfl fun l r7 i7 q7 h7 hx=>?_
    simp only [↓EJ,FY,simprocAttr,Bc]
    try simp only [EQ,simprocAttr]
    refine ⟨(l,r7),[0,1],⟨i7,hx⟩,?_⟩
    exact Conv.all (by simp only [EC,simprocAttr,PRN,Ap])
   ·obtain rfl:b=true:=by simpa using h
    replace hx:=hx.to fun he=>(by simp only [(hb.1 rfl).2];exact rfl)
    refine WC.skip ?_
    try simp only [EQ,simprocAttr]
    refine ⟨([],r6),[0,1],⟨i6,hx⟩,?_⟩
    exact Conv.all (by simp only [EC,simprocAttr,PRN,Ap,C5])
  rintro ⟨l,r7⟩ ⟨i7,hx⟩
  dsimp only at i7 hx ⊢
  refine WC.rs fun K hK=>?_
  simp only [↓EJ,FY,simprocAttr]
  refine Ad hx (A0 ts r7 i7 [41]) (by simp only [CL,PCL,TCL,DCL,FCL,RCL,MCL,and_self]) (fun _ _=>rfl) rfl rfl fun u r8 i8 q8 h8 hx=>?_
  simp only [↓EJ,FY,simprocAttr]
  refine hK _ ?_;clear hK K
  refine WC.go (Aa [0,2,3,47] ?_)
  refine WC.ret ?_
  simp only [↓EJ,FY,simprocAttr,EQ,EF,Tryz.results152]
  exact RSem.done (hx (.mk 3 w f 0 ze l zd [] []) r8 (RelV.ok i8)) rfl (Cx _) rfl
 subst h
 replace hx:=hx.to fun he=>(by simp only [hb.2 rfl he];exact rfl)
 refine WC.skip (hK1 _ ?_)
 refine WC.rs fun K hK=>?_
 simp only [↓EJ,FY,simprocAttr]
 refine Ad hx (G4 W r4 i4) (by simp only [CL,PCL,TCL,DCL,FCL,RCL,MCL,and_self]) Au rfl rfl fun e r5 i5 q5 h5 hx=>?_
 obtain ⟨eo,ei,⟨e1,e2,e3⟩,en,ea⟩:=e
 simp only [↓EJ,FY,simprocAttr,D5,MS,Bc]
 refine hK _ ?_;clear hK K
 refine WC.go ?_
 refine WC.ret ?_
 simp only [↓EJ,FY,simprocAttr,EQ,EF,Tryz.results152]
 exact RSem.done (hx (.mk 1 w [] 0 (.mk eo ei (e1,e2,e3) en ea) [] zd [] []) r5 (RelV.ok i5)) rfl (Cx _) rfl
end Go.LexSem
-- TIGHT
-- CLOSERS: PCL,TCL,DCL,FCL,RCL,MCL
set_option maxHeartbeats 16000000
set_option maxRecDepth 8000
namespace Go.LexSem
open Go Go.V Go.Proofs Go.Num

structure RMAll (ts:List Tok) (n:Nat):Prop where
 stmt:∀ r,PInv ts r.s→3 * rem ts r.s + 1≤n→RSem 133 [] ts r (E4 ts n r.s) smV
 body:∀ r,PInv ts r.s→3 * rem ts r.s≤n→RSem 150 [] ts r (Gz ts n r.s) C3
 stmts:∀ r,PInv ts r.s→(r.e=0→3 * rem ts r.s + 2≤n)→RSem 110 [] ts r (Fq ts n [] r.s) C3
def smP:List Sm→PVal
 | []=>.nils
 | a::l=>.ref (.l 0) 0 (a::l).length
def smB:List Sm→List Blk
 | []=>[]
 | a::l=>[.row ((a::l).map smV) 25 61]
theorem X8 {l:List Sm} (h:l≠[]):smP l=.ref (.l 0) 0 l.length:=by
 cases l
 ·exact absurd rfl h
 ·rfl
theorem X9 {l:List Sm} (h:l≠[]):smB l=[.row (l.map smV) 25 61]:=by
 cases l
 ·exact absurd rfl h
 ·rfl
theorem Yi {ts:List Tok} (W:RTk ts) (n:Nat) (H:RMAll ts n) (r1:RS) (i1:PInv ts r1.s) (hn:3 * rem ts r1.s + 1≤n + 1):RSem 133 [] ts r1 (E4 ts (n + 1) r1.s) smV:=by
 have hx:=cy0 (ts:=ts) (r:=r1) (x:=E4 ts (n + 1) r1.s)
 replace hx:=hx.to fun _=>(by rw [E4])
 unfold RSem
 refine FSem.en 61 Tryz.func133 ?_
 simp only [Aj]
 refine WC.go ?_
 refine WC.go ?_
 refine Bt (X:=Sm × RS) (fun y=>PInv ts y.2.s∧Cy ts (semiQ ts y.1 y.2.s) y.2 (RelV ts (E4 ts (n + 1) r1.s) r1)) (fun y=>⟨[(3,.ptr (.l 1) 0 0),(2,.ptr (.l 0) 0 0),(0,.ptr (.o 0) 0 0)],[Bj ts y.2],[.row [.agg [.int .i64 0,.str [],.str [],.int .i64 0,.int .i64 0,.int .i64 0,.bool false,.nils,.nils,.str [],.nils,.nils,.int .i64 0,.int .i64 0,.int .i64 0,.bool false,.nils,.nils,.bool false,.nils,.nils,.nils,.str [],.nils,.nils]] 25 61,.row [.agg (smC y.1)] 25 61],[]⟩) ?_ ?_
 ·refine WC.b1 ?_
  refine WC.rs fun K hK=>?_
  simp only [↓EJ,FY,simprocAttr]
  refine CallX.tk hx i1 rfl rfl fun b2 r2 i2 q2 hx t2=>?_
  simp only [↓EJ,FY,simprocAttr]
  refine hK _ ?_;clear hK K
  refine WC.cond rfl (fun h=>?_) fun h=>?_
  ·cases h
   have y2:=(t2 rfl).2.2
   dsimp only at hx
   refine WC.go ?_
   refine WC.rs fun K hK=>?_
   simp only [↓EJ,FY,simprocAttr]
   refine Ad hx (G4 W r2 i2) (by simp only [CL,PCL,TCL,DCL,FCL,RCL,MCL,and_self]) Au rfl rfl fun e r3 i3 q3 h3 hx=>?_
   obtain ⟨eo,ei,⟨e1,e2,e3⟩,en,ea⟩:=e
   simp only [↓EJ,FY,simprocAttr,D5,MS,Bc]
   refine hK _ (Aa [0,2,3,17,22,33,44,51] ?_);clear hK K
   refine WC.rs fun K hK=>?_
   simp only [↓EJ,FY,simprocAttr]
   refine Ad hx (H.body r3 i3 (by omega)) (by simp only [CL,PCL,TCL,DCL,FCL,RCL,MCL,and_self]) Ct rfl rfl fun th r4 i4 q4 h4 hx=>?_
   simp only [↓EJ,FY,simprocAttr,MS]
   refine hK _ ?_;clear hK K
   refine Am fun K1 hK1=>?_
   refine WC.rs fun K hK=>?_
   simp only [↓EJ,FY,simprocAttr]
   refine CallX.tk hx i4 rfl rfl fun b5 r5 i5 q5 hx t5=>?_
   simp only [↓EJ,FY,simprocAttr]
   refine hK _ ?_;clear hK K
   refine WC.cond rfl (fun h=>?_) fun h=>?_
   ·cases h
    dsimp only at hx
    refine WC.r1 ?_
    simp only [↓EJ,FY,simprocAttr]
    refine Ad hx (H.body r5 i5 (by omega)) (by simp only [CL,PCL,TCL,DCL,FCL,RCL,MCL,and_self]) Ct rfl rfl fun el r6 i6 q6 h6 hx=>?_
    simp only [↓EJ,FY,simprocAttr,MS]
    refine hK1 _ ?_
    refine WC.go (Aa [0,2,3,22,33,44,51] ?_)
    refine WC.ret ?_
    simp only [↓EJ,FY,simprocAttr,EQ,EF,Tryz.results133]
    exact RSem.done (hx (.mk 4 [] [] 0 (.mk eo ei (e1,e2,e3) en ea) [] zd th el) r6 (RelV.ok i6)) rfl (Cx _) rfl
   ·cases h
    dsimp only at hx
    refine WC.skip (hK1 _ ?_)
    refine WC.go ?_
    refine WC.ret ?_
    simp only [↓EJ,FY,simprocAttr,EQ,EF,Tryz.results133]
    exact RSem.done (hx (.mk 4 [] [] 0 (.mk eo ei (e1,e2,e3) en ea) [] zd th []) r5 (RelV.ok i5)) rfl (Cx _) rfl
  cases h
  dsimp only at hx
  refine WC.rs fun K hK=>?_
  simp only [↓EJ,FY,simprocAttr]
  refine CallX.tk hx i2 rfl rfl fun b3 r3 i3 q3 hx t3=>?_
  simp only [↓EJ,FY,simprocAttr]
  refine hK _ ?_;clear hK K
  refine WC.cond rfl (fun h=>?_) fun h=>?_
  ·cases h
   have y3:=(t3 rfl).2.2
   dsimp only at hx
   refine WC.go ?_
   refine WC.rs fun K hK=>?_
   simp only [↓EJ,FY,simprocAttr]
   refine Ad hx (C8 ts r3 i3) (by simp only [CL,PCL,TCL,DCL,FCL,RCL,MCL,and_self]) (fun _ _=>rfl) rfl rfl fun k r4 i4 q4 h4 hx=>?_
   simp only [↓EJ,FY,simprocAttr]
   refine hK _ (Aa [0,2,3,33,44,51] ?_);clear hK K
   refine WC.rs fun K hK=>?_
   simp only [↓EJ,FY,simprocAttr]
   refine Ad hx (H.body r4 i4 (by omega)) (by simp only [CL,PCL,TCL,DCL,FCL,RCL,MCL,and_self]) Ct rfl rfl fun th r5 i5 q5 h5 hx=>?_
   simp only [↓EJ,FY,simprocAttr,MS]
   refine hK _ ?_;clear hK K
   refine WC.go ?_
   refine WC.ret ?_
   simp only [↓EJ,FY,simprocAttr,EQ,EF,Tryz.results133]
   exact RSem.done (hx (.mk 5 [] [] k ze [] zd th []) r5 (RelV.ok i5)) rfl (Cx _) rfl
  cases h
  dsimp only at hx
  refine WC.rs fun K hK=>?_
  simp only [↓EJ,FY,simprocAttr]
  refine CallX.tk hx i3 rfl rfl fun b4 r4 i4 q4 hx t4=>?_
  simp only [↓EJ,FY,simprocAttr]
  refine hK _ (Aa [0,2,3,33,44,51] ?_);clear hK K
  refine WC.cond rfl (fun h=>?_) fun h=>?_
  ·cases h
   have y4:=(t4 rfl).2.2
   dsimp only at hx
   refine WC.go ?_
   refine WC.rs fun K hK=>?_
   simp only [↓EJ,FY,simprocAttr]
   refine Ad hx (G4 W r4 i4) (by simp only [CL,PCL,TCL,DCL,FCL,RCL,MCL,and_self]) Au rfl rfl fun e r5 i5 q5 h5 hx=>?_
   obtain ⟨eo,ei,⟨e1,e2,e3⟩,en,ea⟩:=e
   simp only [↓EJ,FY,simprocAttr,D5,MS,Bc]
   refine hK _ ?_;clear hK K
   refine WC.rs fun K hK=>?_
   simp only [↓EJ,FY,simprocAttr]
   refine Ad hx (H.body r5 i5 (by omega)) (by simp only [CL,PCL,TCL,DCL,FCL,RCL,MCL,and_self]) Ct rfl rfl fun th r6 i6 q6 h6 hx=>?_
   simp only [↓EJ,FY,simprocAttr,MS]
   refine hK _ (Aa [0,2,3,44,51] ?_);clear hK K
   refine WC.go ?_
   refine WC.ret ?_
   simp only [↓EJ,FY,simprocAttr,EQ,EF,Tryz.results133]
   exact RSem.done (hx (.mk 6 [] [] 0 (.mk eo ei (e1,e2,e3) en ea) [] zd th []) r6 (RelV.ok i6)) rfl (Cx _) rfl
  cases h
  dsimp only at hx
  refine WC.rs fun K hK=>?_
  simp only [↓EJ,FY,simprocAttr]
  refine CallX.tk hx i4 rfl rfl fun b5 r5 i5 q5 hx t5=>?_
  simp only [↓EJ,FY,simprocAttr]
  refine hK _ ?_;clear hK K
  refine WC.cond rfl (fun h=>?_) fun h=>?_
  ·cases h
   dsimp only at hx
   refine WC.go ?_
   refine WC.r1 ?_
   simp only [↓EJ,FY,simprocAttr]
   refine Ad hx (G4 W r5 i5) (by simp only [CL,PCL,TCL,DCL,FCL,RCL,MCL,and_self]) Au rfl rfl fun e r6 i6 q6 h6 hx=>?_
   obtain ⟨eo,ei,⟨e1,e2,e3⟩,en,ea⟩:=e
   simp only [↓EJ,FY,simprocAttr,D5,MS,Bc]
   try simp only [EQ,simprocAttr]
   refine ⟨(.mk 7 [] [] 0 (.mk eo ei (e1,e2,e3) en ea) [] zd [] [],r6),[0,1],⟨i6,hx⟩,?_⟩
   have hd:smC (.mk 7 [] [] 0 (.mk eo ei (e1,e2,e3) en ea) [] zd [] [])=[.int .i64 7,.str [],.str [],.int .i64 0,.int .i64 eo,.int .i64 ei,.bool e1,A8 e2,A8 e3,.str en,Dv ea,.nils,.int .i64 0,.int .i64 0,.int .i64 0,.bool false,.nils,.nils,.bool false,.nils,.nils,.nils,.str [],.nils,.nils]:=rfl
   dsimp only
   rw [hd]
   exact Conv.all (by simp only [EC,simprocAttr,PRN,Ap])
  cases h
  dsimp only at hx
  refine WC.rs fun K hK=>?_
  simp only [↓EJ,FY,simprocAttr]
  refine CallX.tk hx i5 rfl rfl fun b6 r6 i6 q6 hx t6=>?_
  simp only [↓EJ,FY,simprocAttr]
  refine hK _ (Aa [0,2,3,51] ?_);clear hK K
  refine WC.cond rfl (fun h=>?_) fun h=>?_
  ·cases h
   dsimp only at hx
   refine WC.go ?_
   refine WC.r1 ?_
   simp only [↓EJ,FY,simprocAttr]
   refine Ad hx (G4 W r6 i6) (by simp only [CL,PCL,TCL,DCL,FCL,RCL,MCL,and_self]) Au rfl rfl fun e r7 i7 q7 h7 hx=>?_
   obtain ⟨eo,ei,⟨e1,e2,e3⟩,en,ea⟩:=e
   simp only [↓EJ,FY,simprocAttr,D5,MS,Bc]
   try simp only [EQ,simprocAttr]
   refine ⟨(.mk 8 [] [] 0 (.mk eo ei (e1,e2,e3) en ea) [] zd [] [],r7),[0,1],⟨i7,hx⟩,?_⟩
   have hd:smC (.mk 8 [] [] 0 (.mk eo ei (e1,e2,e3) en ea) [] zd [] [])=[.int .i64 8,.str [],.str [],.int .i64 0,.int .i64 eo,.int .i64 ei,.bool e1,A8 e2,A8 e3,.str en,Dv ea,.nils,.int .i64 0,.int .i64 0,.int .i64 0,.bool false,.nils,.nils,.bool false,.nils,.nils,.nils,.str [],.nils,.nils]:=rfl
   dsimp only
   rw [hd]
   exact Conv.all (by simp only [EC,simprocAttr,PRN,Ap])
  cases h
  dsimp only at hx
  replace hx:=hx.to fun _=>simple_eq ts r6.s
  refine WC.r1 ?_
  simp only [↓EJ,FY,simprocAttr]
  refine Ad hx (Wn W r6 i6) (by simp only [CL,PCL,TCL,DCL,FCL,RCL,MCL,and_self]) Cx rfl rfl fun t r7 i7 q7 h7 hx=>?_
  simp only [↓EJ,FY,simprocAttr,MS]
  try simp only [EQ,simprocAttr]
  refine ⟨(t,r7),[0,1],⟨i7,hx⟩,?_⟩
  exact Conv.all (by simp only [EC,simprocAttr,PRN,MRN,Ap])
 rintro ⟨t,r2⟩ ⟨i2,hx⟩
 dsimp only at i2 hx ⊢
 replace hx:=hx.to fun _=>(by rw [semiQ])
 refine WC.rs fun K hK=>?_
 simp only [↓EJ,FY,simprocAttr]
 refine Ad hx (A0 ts r2 i2 [59]) (by simp only [CL,PCL,TCL,DCL,FCL,RCL,MCL,and_self]) (fun _ _=>rfl) rfl rfl fun u r3 i3 q3 h3 hx=>?_
 simp only [↓EJ,FY,simprocAttr]
 refine hK _ ?_;clear hK K
 refine WC.rs fun K hK=>?_
 simp only [↓EJ,FY,simprocAttr,MS]
 refine hK _ ?_;clear hK K
 refine WC.ret ?_
 simp only [↓EJ,FY,simprocAttr,EQ,EF,Tryz.results133,MS]
 exact RSem.done (hx t r3 (RelV.ok i3)) rfl (of_eq_true (by simp only [CL,PCL,TCL,DCL,FCL,RCL,MCL,and_self])) rfl
theorem Yu (ts:List Tok) (n:Nat) (H:RMAll ts n) (r1:RS) (i1:PInv ts r1.s) (hn:3 * rem ts r1.s≤n + 1):RSem 150 [] ts r1 (Gz ts (n + 1) r1.s) C3:=by
 have hx:=cy0 (ts:=ts) (r:=r1) (x:=Gz ts (n + 1) r1.s)
 replace hx:=hx.to fun _=>(by rw [Gz])
 unfold RSem
 refine FSem.en 11 Tryz.func150 ?_
 simp only [Aj]
 refine WC.go ?_
 refine WC.rs fun K hK=>?_
 simp only [↓EJ,FY,simprocAttr]
 refine Ad hx (A0 ts r1 i1 [123]) (by simp only [CL,PCL,TCL,DCL,FCL,RCL,MCL,and_self]) (fun _ _=>rfl) rfl rfl fun u r2 i2 q2 h2 hx=>?_
 simp only [↓EJ,FY,simprocAttr]
 refine hK _ ?_;clear hK K
 have w2:r2.e=0→3 * rem ts r2.s + 2≤n:=fun e=>by have:=P2 i1 h2 e;omega
 replace hx:=hx.to fun e=>Q6 (stop:=[125]) (by decide) (fun l _ s=>.ok (l,s)) n [] r2.s i2 (w2 e)
 refine WC.rs fun K hK=>?_
 simp only [↓EJ,FY,simprocAttr]
 refine Ad hx (H.stmts r2 i2 w2) (by simp only [CL,PCL,TCL,DCL,FCL,RCL,MCL,and_self]) Ct rfl rfl fun l r3 i3 q3 h3 hx=>?_
 simp only [↓EJ,FY,simprocAttr]
 refine hK _ ?_;clear hK K
 refine WC.rs fun K hK=>?_
 simp only [↓EJ,FY,simprocAttr]
 refine Ad hx (A0 ts r3 i3 [125]) (by simp only [CL,PCL,TCL,DCL,FCL,RCL,MCL,and_self]) (fun _ _=>rfl) rfl rfl fun u r4 i4 q4 h4 hx=>?_
 simp only [↓EJ,FY,simprocAttr]
 refine hK _ (Aa [2,3] ?_);clear hK K
 refine WC.go ?_
 refine WC.ret ?_
 simp only [↓EJ,FY,simprocAttr,EQ,EF,Tryz.results150]
 exact RSem.done (hx l r4 (RelV.ok i4)) rfl (of_eq_true (by simp only [CL,PCL,TCL,DCL,FCL,RCL,MCL,and_self])) rfl
theorem Lb (ts:List Tok) (n:Nat) (H:∀ m,m < n→RMAll ts m) (r1:RS) (i1:PInv ts r1.s) (hn:r1.e=0→3 * rem ts r1.s + 2≤n):RSem 110 [] ts r1 (Fq ts n [] r1.s) C3:=by
 have hx:=cy0 (ts:=ts) (r:=r1) (x:=Fq ts n [] r1.s)
 unfold RSem
 refine FSem.en 32 Tryz.func110 ?_
 simp only [Aj]
 refine WC.go ?_
 refine WC.go ?_
 refine WC.bs fun K0 hK0=>?_
 refine WC.loop (X:=Nat × List Sm × RS) (fun y=>⟨[(3,smP y.2.1),(0,.ptr (.o 0) 0 0)],[Bj ts y.2.2],smB y.2.1,[]⟩)
  (fun y=>y.1≤n∧PInv ts y.2.2.s∧(y.2.2.e=0→3 * rem ts y.2.2.s + 2≤y.1)∧(y.2.2.e=0→y.2.1.length + rem ts y.2.2.s≤10010)∧Cy ts (Fq ts y.1 y.2.1 y.2.2.s) y.2.2 (RelV ts (Fq ts n [] r1.s) r1)) (fun y=>rem ts y.2.2.s + (if y.2.2.e=0 then 1 else 0)) (n,[],r1) [] ⟨Nat.le_refl _,i1,hn,fun _=>by have:=J0 i1;simp only [List.length_nil];omega,hx⟩ ?_ ?_
 ·dsimp only [smP,smB]
  exact Conv.all (by simp only [EC,simprocAttr,Ap,smP,smB])
 clear hx
 rintro ⟨m,acc,r1⟩ ⟨hm,i1,hr,hlen,hx⟩
 dsimp only at hm i1 hr hlen hx ⊢
 have hp:=Ez i1
 refine Am fun K3 hK3=>?_
 refine WC.rs fun K hK=>?_
 have hk:∀ b e',((b=true→r1.e=0∧Jc ts r1.s=true)∧(b=false→r1.e=0→Jc ts r1.s=false))→Ix [0,3,25] e'=[(25,.bool b),(3,smP acc),(0,.ptr (.o 0) 0 0)]→K ⟨e',[Bj ts r1],smB acc,[]⟩:=fun b e' hb he=>by
  refine hK _ (Aa [0,3,25] ?_)
  rw [he]
  clear hK K he e'
  refine WC.cond rfl (fun h=>?_) fun h=>?_
  ·subst h
   obtain ⟨he,hs⟩:=hb.1 rfl
   have hr:=hr he
   have hlen:=hlen he
   obtain ⟨m,rfl⟩:∃ k,m=k + 1:=⟨m - 1,by omega⟩
   replace hx:=hx.to fun _=>(by rw [Fq,hs])
   dsimp only at hx
   refine WC.skip (hK3 _ ?_)
   refine WC.b1 ?_
   have fin:∀ t r3,RelV ts (E4 ts m r1.s) r1 t r3→(r3.e=0→rem ts r3.s + 1≤rem ts r1.s)∧rem ts r3.s≤rem ts r1.s:=fun t r3 h3=>⟨fun e=>((Sg ts m).stmt i1 (h3.okv e)).rem,Yq h3.le⟩
   cases acc with
   | nil =>
     simp only [smP,smB]
     refine F9 [3] ?_
     simp only [↓EJ,FY,simprocAttr,EZ]
     refine Ad hx ((H m (by omega)).stmt r1 i1 (by omega)) (by simp only [CL,PCL,TCL,DCL,FCL,RCL,MCL,and_self]) Cx rfl rfl fun t r3 i3 q3 h3 hx=>?_
     simp only [↓EJ,FY,simprocAttr,EZ,MS]
     try simp only [EQ,simprocAttr]
     obtain ⟨f1,f2⟩:=fin t r3 h3
     refine ⟨(m,[t],r3),[0],⟨by dsimp only;omega,i3,fun e=>by have:=f1 e;dsimp only;omega,fun e=>by have:=f1 e;simp only [List.length_cons,List.length_nil] at hlen ⊢;omega,hx⟩,by dsimp only;rw [if_pos he];split <;> rename_i e <;> (try have:=f1 e) <;> omega,?_⟩
     dsimp only [smP,smB]
     exact Conv.all (by simp only [EC,simprocAttr,PRN,MRN,MS,Ap,List.map_cons,List.map_nil,List.length_cons,List.length_nil])
   | cons a0 acc0 =>
     generalize ha:a0::acc0=acc at *
     have hne:acc≠[]:=by rw [←ha];simp
     rw [X8 hne,X9 hne]
     refine F9 [3] ?_
     simp only [↓EJ,FY,simprocAttr,EZ]
     refine Ad hx ((H m (by omega)).stmt r1 i1 (by omega)) (by simp only [CL,PCL,TCL,DCL,FCL,RCL,MCL,and_self]) Cx rfl rfl fun t r3 i3 q3 h3 hx=>?_
     simp only [↓EJ,FY,simprocAttr,EZ,MS]
     refine ⟨by rw [List.length_map],by omega,by omega,?_⟩
     try simp only [EQ,simprocAttr]
     obtain ⟨f1,f2⟩:=fin t r3 h3
     refine ⟨(m,acc ++ [t],r3),[1],⟨by dsimp only;omega,i3,fun e=>by have:=f1 e;dsimp only;omega,fun e=>by have:=f1 e;simp only [List.length_append,List.length_cons,List.length_nil] at hlen ⊢;omega,hx⟩,by dsimp only;rw [if_pos he];split <;> rename_i e <;> (try have:=f1 e) <;> omega,?_⟩
     dsimp only
     rw [X8 (by simp),X9 (by simp)]
     exact Conv.all (by simp only [EC,simprocAttr,PRN,MRN,MS,Ap,Aw,List.map_append,List.map_cons,List.map_nil,List.length_append,List.length_cons,List.length_nil])
  ·subst h
   have hs:=hb.2 rfl
   replace hx:=hx.to fun e=>(by rw [show m=(m - 1) + 1 by have:=hr e;omega,Fq,hs e])
   dsimp only at hx
   refine WC.exit (hK0 _ ?_)
   cases acc with
   | nil =>
     simp only [smP,smB]
     refine WC.go ?_
     refine WC.ret ?_
     simp only [↓EJ,FY,simprocAttr,EQ,EF,Tryz.results110]
     exact RSem.done (hx [] r1 (RelV.ok i1)) smsV_nil.symm (Ct _) rfl
   | cons a0 acc0 =>
     generalize ha:a0::acc0=acc at *
     have hne:acc≠[]:=by rw [←ha];simp
     rw [X8 hne,X9 hne]
     refine WC.frz 3 0 rfl rfl (by simp) ?_
     refine WC.go ?_
     refine WC.ret ?_
     simp only [↓EJ,FY,simprocAttr,EQ,EF,Tryz.results110]
     have hp:PVal.slc (List.take acc.length (List.map smV acc))=C3 acc:=by rw [P6 hne,List.take_of_length_le (by simp)]
     exact RSem.done (hx acc r1 (RelV.ok i1)) hp (Ct _) rfl
 have hst:Jc ts r1.s=(decide ((cur ts r1.s).1=1) || (isP ts r1.s [105,102] || (isP ts r1.s [114,101,112,101,97,116] || (isP ts r1.s [119,104,105,108,101] || (isP ts r1.s [111,98,115,101,114,118,101] || isP ts r1.s [119,101,105,103,104,116]))))):=rfl
 simp only [↓EJ,FY,simprocAttr]
 refine CallX.kd i1 1 rfl rfl fun b hb=>?_
 cases b with
 | true =>
   simp only [↓EJ,FY,simprocAttr,Bool.not_true,Bool.not_false]
   exact hk true _ ⟨fun _=>⟨(hb.1 rfl).1,by rw [hst];simp [(hb.1 rfl).2]⟩,fun h=>by cases h⟩ (by simp only [ET,simprocAttr])
 | false =>
 simp only [↓EJ,FY,simprocAttr,Bool.not_true,Bool.not_false]
 refine Fz i1 [105,102] rfl rfl fun b0 hb0=>?_
 cases b0 with
 | true =>
   simp only [↓EJ,FY,simprocAttr,Bool.not_true,Bool.not_false]
   exact hk true _ ⟨fun _=>⟨(hb0.1 rfl).1,by rw [hst];simp [(hb0.1 rfl).2]⟩,fun h=>by cases h⟩ (by simp only [ET,simprocAttr])
 | false =>
 simp only [↓EJ,FY,simprocAttr,Bool.not_true,Bool.not_false]
 refine Fz i1 [114,101,112,101,97,116] rfl rfl fun b1 hb1=>?_
 cases b1 with
 | true =>
   simp only [↓EJ,FY,simprocAttr,Bool.not_true,Bool.not_false]
   exact hk true _ ⟨fun _=>⟨(hb1.1 rfl).1,by rw [hst];simp [(hb1.1 rfl).2]⟩,fun h=>by cases h⟩ (by simp only [ET,simprocAttr])
 | false =>
 simp only [↓EJ,FY,simprocAttr,Bool.not_true,Bool.not_false]
 refine Fz i1 [119,104,105,108,101] rfl rfl fun b2 hb2=>?_
 cases b2 with
 | true =>
   simp only [↓EJ,FY,simprocAttr,Bool.not_true,Bool.not_false]
   exact hk true _ ⟨fun _=>⟨(hb2.1 rfl).1,by rw [hst];simp [(hb2.1 rfl).2]⟩,fun h=>by cases h⟩ (by simp only [ET,simprocAttr])
 | false =>
 simp only [↓EJ,FY,simprocAttr,Bool.not_true,Bool.not_false]
 refine Fz i1 [111,98,115,101,114,118,101] rfl rfl fun b3 hb3=>?_
 cases b3 with
 | true =>
   simp only [↓EJ,FY,simprocAttr,Bool.not_true,Bool.not_false]
   exact hk true _ ⟨fun _=>⟨(hb3.1 rfl).1,by rw [hst];simp [(hb3.1 rfl).2]⟩,fun h=>by cases h⟩ (by simp only [ET,simprocAttr])
 | false =>
 simp only [↓EJ,FY,simprocAttr,Bool.not_true,Bool.not_false]
 refine Fz i1 [119,101,105,103,104,116] rfl rfl fun b4 hb4=>?_
 cases b4 with
 | true =>
   simp only [↓EJ,FY,simprocAttr,Bool.not_true,Bool.not_false]
   exact hk true _ ⟨fun _=>⟨(hb4.1 rfl).1,by rw [hst];simp [(hb4.1 rfl).2]⟩,fun h=>by cases h⟩ (by simp only [ET,simprocAttr])
 | false =>
 simp only [↓EJ,FY,simprocAttr,Bool.not_true,Bool.not_false]
 exact hk false _ ⟨fun h=>(by cases h),fun _ e=>by rw [hst];simp [hb.2 rfl e,hb0.2 rfl e,hb1.2 rfl e,hb2.2 rfl e,hb3.2 rfl e,hb4.2 rfl e]⟩ (by simp only [ET,simprocAttr])
theorem rmAll {ts:List Tok} (W:RTk ts):∀ n,RMAll ts n:=fun n=>by
 induction n using Nat.strongRecOn with
 | _ n ih =>
   have hst:∀ m,m≤n→(∀ k,k < m→RMAll ts k)→∀ r,PInv ts r.s→(r.e=0→3 * rem ts r.s + 2≤m)→RSem 110 [] ts r (Fq ts m [] r.s) C3:=fun m _ hm r i h=>Lb ts m hm r i h
   cases n with
   | zero=>exact ⟨fun r _ h=>by omega,fun r i h=>by have:=Ez i;omega,fun r i h=>Lb ts 0 (fun m hm=>absurd hm (by omega)) r i h⟩
   | succ n =>
     have H:=ih n (by omega)
     exact ⟨fun r i h=>Yi W n H r i h,fun r i h=>Yu ts n H r i h,fun r i h=>Lb ts (n + 1) (fun m hm=>ih m (by omega)) r i h⟩
end Go.LexSem
