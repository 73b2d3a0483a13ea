/-
 Texts joined: ReA ReB ReC ReD ReE ReF ReG.
-/
import Derived.Test.YtenieameoojbjaaGreatDoorUMJ
import Derived.Test.YtenieameoojbjaaGreatDoorUMD
import Derived.Test.YtenieameoojbjaaGreatDoorUMK
import Derived.Test.YtenieameoojbjaaGreatDoorUMM
set_option linter.unusedVariables false
set_option linter.unusedSimpArgs false
set_option linter.loopingSimpArgs false
-- TIGHT
set_option maxHeartbeats 4000000
set_option maxRecDepth 8000
namespace Go.LexSem
open Go Go.V Go.Proofs Go.Num

/-! ### The reference's reader -/
structure RS where
 s:PS
 e:Nat
def Bj (ts:List Tok) (r:RS):Blk:=.row [.agg [tks ts,.int .i64 r.s.at_,.int .i64 r.s.opn,.int .i64 r.e]] 4 98
theorem Bb (ts:List Tok) (r:RS):D8 (Bj ts r):=fun f=>by
 simp only [Bj,tks,Cu,Ba,ren,Cb ts f]
theorem Ap (f:Ref→Ref) (ts:List Tok) (r:RS):Cu f (Bj ts r)=Bj ts r:=Bb ts r f
/-- What has been read is what the parser reads; or the reader has stopped where the parser gives up. -/
def OutV {α:Type} (ts:List Tok) (x:PR α) (v:α) (r':RS):Prop :=
 match x with
 | .ok (a,s)=>v=a∧r'=⟨s,0⟩
 | .error q=>q=Gr (cur ts r'.s) r'.e∧r'.e≠0
theorem Yq {ts:List Tok} {s s':PS} (h:s.at_≤s'.at_):rem ts s'≤rem ts s:=Nat.sub_le_sub_left h _
structure RelV {α:Type} (ts:List Tok) (x:PR α) (r:RS) (v:α) (r':RS):Prop where
 inv:PInv ts r'.s
 le:r.s.at_≤r'.s.at_
 dead:r.e≠0→r'=r
 out:r.e=0→OutV ts x v r'
theorem RelV.bnd {α β:Type} {ts:List Tok} {x:PR α} {f:α→PS→PR β} {r r1 r2:RS} {a:α} {v:β} (h1:RelV ts x r a r1) (h2:RelV ts (f a r1.s) r1 v r2):RelV ts (bnd x f) r v r2:=by
 refine ⟨h2.inv,Nat.le_trans h1.le h2.le,fun hd=>?_,fun ha=>?_⟩
 ·have e1:=h1.dead hd
  subst e1
  exact h2.dead hd
 ·have o1:=h1.out ha
  unfold LexSem.bnd
  match x,o1 with
  | .ok (a',s),o1 =>
    obtain ⟨rfl,rfl⟩:=o1
    exact h2.out rfl
  | .error q,o1 =>
    have e2:=h2.dead o1.2
    subst e2
    exact o1
theorem RelV.ok {α:Type} {ts:List Tok} {r:RS} {v:α} (i:PInv ts r.s):RelV ts (.ok (v,r.s)) r v r :=
 ⟨i,Nat.le_refl _,fun _=>rfl,fun h=>⟨rfl,by cases r;cases h;rfl⟩⟩
theorem RelV.stop {α:Type} {ts:List Tok} {x:PR α} {r:RS} {v:α} (i:PInv ts r.s) (h:r.e≠0):RelV ts x r v r:=⟨i,Nat.le_refl _,fun _=>rfl,fun h'=>absurd h' h⟩
/-- What is still to be read, on the way to T. -/
def Cy {β:Type} (ts:List Tok) (x:PR β) (r:RS) (T:β→RS→Prop):Prop:=∀ v r',RelV ts x r v r'→T v r'
theorem Cy.step {α β:Type} {ts:List Tok} {x:PR α} {f:α→PS→PR β} {r r1:RS} {a:α} {T:β→RS→Prop} (hx:Cy ts (bnd x f) r T) (h:RelV ts x r a r1):Cy ts (f a r1.s) r1 T:=fun v r' h2=>hx v r' (h.bnd h2)
theorem Cy.to {β:Type} {ts:List Tok} {x y:PR β} {r:RS} {T:β→RS→Prop} (hx:Cy ts x r T) (h:r.e=0→x=y):Cy ts y r T:=fun v r' h2=>hx v r' ⟨h2.inv,h2.le,h2.dead,fun he=>h he ▸ h2.out he⟩
/-- A method of the reader. -/
def RSem {α:Type} (f:FuncId) (args:List PVal) (ts:List Tok) (r:RS) (x:PR α) (enc:α→PVal):Prop :=
 FSem C f (.ptr (.o 0) 0 0::args) [Bj ts r] fun q st=>∃ v r',RelV ts x r v r'∧q=.ret (enc v)∧st=[Bj ts r']
theorem M8 {α:Type} {g:FuncId} {args args':List PVal} {σ:St} {K KP:PVal→St→Prop} {p:Ref} {ts:List Tok} {r:RS} {x:PR α} {enc:α→PVal} (spec:RSem g args ts r x enc) (hb:Ao σ.o σ.l p=some (Bj ts r))
  (ha:args'=.ptr p 0 0::args) (hca:ClosedL args) (hcl:∀ v,Closed (enc v)) (hok:∀ v r1,RelV ts x r v r1→K (enc v) (A1 σ p (Bj ts r1))):CallW C g args' σ K KP :=
 CallW.of spec [p] (by simp) (by rw [ha];simp only [Ba,ren,hca _,A4,List.getD_cons_zero]) rfl (fun j r' k hr hk=>by
  cases j with
  | zero=>simp at hr hk;subst hr hk;rw [Bb];exact hb
  | succ j=>simp at hr) fun q st' ho=>by
  have e:∀ b,By σ [p] [b]=A1 σ p b:=fun b=>by simp [By]
  obtain ⟨v,r1,h1,rfl,rfl⟩:=ho
  simp only [List.map_cons,List.map_nil,Bb _ _ _,hcl _ _,e]
  exact hok _ _ h1
/-- A call, and what is left. -/
theorem Ad {α β:Type} {g:FuncId} {args args':List PVal} {σ:St} {K KP:PVal→St→Prop} {u:TagK K KP} {p:Ref} {ts:List Tok} {r:RS} {x:PR α} {f:α→PS→PR β} {enc:α→PVal} {T:β→RS→Prop} (hx:Cy ts (bnd x f) r T) (spec:RSem g args ts r x enc)
  (hca:ClosedL args) (hcl:∀ v,Closed (enc v)) (hb:Ao σ.o σ.l p=some (Bj ts r)) (ha:args'=.ptr p 0 0::args)
  (hok:∀ v r1,PInv ts r1.s→rem ts r1.s≤rem ts r.s→RelV ts x r v r1→Cy ts (f v r1.s) r1 T→K (enc v) (A1 σ p (Bj ts r1))):CallX C g args' σ K KP u :=
 CallX.mk (M8 spec hb ha hca hcl fun v r1 h=>hok v r1 h.inv (Yq h.le) h (hx.step h))
/-- The end of a method's walk. -/
theorem RSem.done {α:Type} {ts:List Tok} {r r1:RS} {x:PR α} {enc:α→PVal} {σ:St} {v:α} {p:PVal} (h:RelV ts x r v r1) (hp:p=enc v) (hc:Closed (enc v)) (ho:σ.o=[Bj ts r1]) :
  EndsIn σ p fun p st=>∃ v r',RelV ts x r v r'∧PRes.ret p=.ret (enc v)∧st=[Bj ts r']:=by
 subst hp
 refine EndsIn.plain hc (fun k hk=>?_) ⟨v,r1,h,rfl,ho⟩
 rw [ho] at hk
 simp only [List.mem_singleton] at hk
 subst hk
 exact Bb ts r1
theorem er_eq {r:RS}:((r.e:Int)=0)=(r.e=0):=propext ⟨fun h=>by omega,fun h=>by omega⟩
theorem S7 (ts:List Tok) (r:RS) (i:PInv ts r.s) (code:Nat) (hc:code≠0):FSem C 85 [.ptr (.o 0) 0 0,.int .i64 code] [Bj ts r] fun q st=>q=.ret (.tuple [])∧st=[Bj ts (if r.e=0 then ⟨r.s,code⟩ else r)]:=by
 refine FSem.en 13 Tryz.func85 ?_
 simp only [Aj]
 refine WC.rs fun K hK=>?_
 simp only [↓EJ,FY,simprocAttr,Bj]
 refine hK _ ?_;clear hK K
 refine WC.cond rfl (fun h=>?_) fun h=>?_
 ·have he:r.e=0:=by simpa using h
  refine WC.r1 ?_
  simp only [↓EJ,FY,simprocAttr,Bj]
  simp only [EQ,EF,Tryz.results85]
  refine EndsIn.plain (by simp only [CL]) (fun k hk=>?_) ⟨rfl,?_⟩
  ·simp only [List.mem_singleton] at hk
   subst hk
   exact Bb ts ⟨r.s,code⟩
  ·rw [if_pos he]
 ·have he:r.e≠0:=by simpa using h
  refine WC.skip ?_
  simp only [EQ,EF,Tryz.results85]
  refine EndsIn.plain (by simp only [CL]) (fun k hk=>?_) ⟨rfl,?_⟩
  ·simp only [List.mem_singleton] at hk
   subst hk
   exact Bb ts r
  ·rw [if_neg he];rfl
theorem rfail_rel {α:Type} {enc:α→PVal} (ts:List Tok) (r:RS) (i:PInv ts r.s) (code:Nat) (hc:code≠0) (v:α):RelV ts (.error (Gr (cur ts r.s) code)) r v (if r.e=0 then ⟨r.s,code⟩ else r):=by
 by_cases h:r.e=0
 ·rw [if_pos h]
  exact ⟨i,Nat.le_refl _,fun h'=>absurd h h',fun _=>⟨rfl,hc⟩⟩
 ·rw [if_neg h]
  exact RelV.stop i h
theorem Uq {ts:List Tok} {r:RS} {σ:St} {p q:PVal} (hp:p=q) (ho:σ.o=[Bj ts r]) (hc:Closed q):EndsIn σ p fun p st=>PRes.ret p=.ret q∧st=[Bj ts r]:=by
 subst hp
 refine EndsIn.plain hc (fun k hk=>?_) ⟨rfl,ho⟩
 rw [ho] at hk
 simp only [List.mem_singleton] at hk
 subst hk
 exact Bb ts r
def kindB (ts:List Tok) (r:RS) (k:Nat):Bool:=decide (r.e=0) && decide ((cur ts r.s).1=k)
def isB (ts:List Tok) (r:RS) (t:List UInt8):Bool:=decide (r.e=0) && isP ts r.s t
theorem kind_sem (ts:List Tok) (r:RS) (i:PInv ts r.s) (k:Nat):FSem C 84 [.ptr (.o 0) 0 0,.int .i64 k] [Bj ts r] fun q st=>q=.ret (.bool (kindB ts r k))∧st=[Bj ts r]:=by
 have hg:=If i.lt
 have hlt:=i.lt
 have hle:=i.le
 unfold kindB cur
 refine FSem.en 25 Tryz.func84 ?_
 simp only [Aj]
 refine WC.go ?_
 by_cases he:r.e=0
 ·have e0:((r.e:Int)=0)=True:=eq_true (by omega)
  generalize (ts.getD r.s.at_ (5,[],1,1))=t0 at *
  obtain ⟨k0,w,l,c⟩:=t0
  refine WC.dg [⟨0,0,false,[]⟩,⟨1,0,false,[]⟩,⟨2,0,false,[]⟩,⟨3,0,false,[]⟩,⟨4,0,false,[]⟩,⟨5,0,false,[]⟩,⟨6,0,false,[]⟩,⟨7,0,false,[]⟩,⟨8,0,false,[]⟩,⟨9,0,false,[]⟩,⟨10,0,false,[]⟩,⟨11,0,false,[]⟩,⟨12,0,false,[]⟩,⟨13,0,false,[]⟩,⟨14,0,false,[]⟩,⟨15,0,false,[]⟩,⟨16,0,false,[]⟩,⟨17,0,false,[]⟩,⟨18,0,false,[]⟩,⟨19,0,false,[]⟩,⟨20,0,false,[]⟩] [0,1,3,7,15,31,63,127,255,511,63,1087,3135,7231,16383,32767,65535,63,262143,524287,1048575] fun K hK=>?_
  simp only [↓EJ,FY,simprocAttr,Bj,tks,List.length_map,Int.toNat_natCast,hg,Bn,e0]
  repeat refine And.intro (by omega) ?_
  refine hK _ (Aa [4] ?_);clear hK K
  refine WC.ret ?_
  simp only [↓EJ,FY,simprocAttr,EQ,EF,Tryz.results84]
  exact Uq (by by_cases hk:k0=k <;> simp [he,hk];omega) rfl (fun _=>rfl)
 ·have e0:((r.e:Int)=0)=False:=eq_false (by omega)
  refine WC.dg [⟨0,0,false,[]⟩,⟨1,0,false,[]⟩,⟨2,0,false,[]⟩,⟨3,0,false,[]⟩,⟨4,0,false,[]⟩,⟨5,0,false,[]⟩,⟨6,0,false,[]⟩,⟨7,0,false,[]⟩,⟨8,0,false,[]⟩,⟨9,0,false,[]⟩,⟨10,0,false,[]⟩,⟨11,0,false,[]⟩,⟨12,0,false,[]⟩,⟨13,0,false,[]⟩,⟨14,0,false,[]⟩,⟨15,0,false,[]⟩,⟨16,0,false,[]⟩,⟨17,0,false,[]⟩,⟨18,0,false,[]⟩,⟨19,0,false,[]⟩,⟨20,0,false,[]⟩] [0,1,3,7,15,31,63,127,255,511,63,1087,3135,7231,16383,32767,65535,63,262143,524287,1048575] fun K hK=>?_
  simp only [↓EJ,FY,simprocAttr,Bj,tks,List.length_map,Int.toNat_natCast,hg,Bn,e0]
  refine hK _ (Aa [4] ?_);clear hK K
  refine WC.ret ?_
  simp only [↓EJ,FY,simprocAttr,EQ,EF,Tryz.results84]
  exact Uq (by simp [he]) rfl (fun _=>rfl)
theorem Z5 (ts:List Tok) (r:RS) (i:PInv ts r.s) (t:List UInt8):FSem C 81 [.ptr (.o 0) 0 0,.str t] [Bj ts r] fun q st=>q=.ret (.bool (isB ts r t))∧st=[Bj ts r]:=by
 have hg:=If i.lt
 have hlt:=i.lt
 have hle:=i.le
 unfold isB isP cur
 refine FSem.en 37 Tryz.func81 ?_
 simp only [Aj]
 refine WC.go ?_
 generalize (ts.getD r.s.at_ (5,[],1,1))=t0 at *
 obtain ⟨k,w,l,c⟩:=t0
 refine WC.dg [⟨0,0,true,[]⟩,⟨1,0,true,[]⟩,⟨2,0,true,[]⟩,⟨3,0,true,[]⟩,⟨4,0,true,[]⟩,⟨5,0,true,[]⟩,⟨6,0,true,[]⟩,⟨7,0,true,[]⟩,⟨8,0,true,[]⟩,⟨9,0,true,[]⟩,⟨10,1,false,[0,1,2,3,4,5,6,7,8,9]⟩,⟨11,1,false,[]⟩] [0,1,3,7,0,16,48,112,255,511,0,2047] fun K hK=>?_
 simp only [↓EJ,FY,simprocAttr,Bj,tks,List.length_map,Int.toNat_natCast,hg,Bn]
 repeat refine And.intro (by omega) ?_
 refine hK _ (Aa [0,1,4,5] ?_);clear hK K
 by_cases he:r.e=0
 ·have e0:((r.e:Int)=0)=True:=eq_true (by omega)
  by_cases h3:k=3
  ·subst h3
   refine WC.rs fun K hK=>?_
   simp only [↓EJ,FY,simprocAttr,Bj,Int.cast_ofNat_Int,Bool.not_true,Bool.not_false,e0]
   refine hK _ (Aa [4] ?_);clear hK K
   refine WC.ret ?_
   simp only [↓EJ,FY,simprocAttr,EQ,EF,Tryz.results81]
   exact Uq (by simp [he]) rfl (fun _=>rfl)
  ·have i3:((k:Int)=3)=False:=eq_false (by omega)
   by_cases h4:k=4
   ·subst h4
    refine WC.rs fun K hK=>?_
    simp only [↓EJ,FY,simprocAttr,Bj,Int.cast_ofNat_Int,Bool.not_true,Bool.not_false,e0]
    refine hK _ (Aa [4] ?_);clear hK K
    refine WC.ret ?_
    simp only [↓EJ,FY,simprocAttr,EQ,EF,Tryz.results81]
    exact Uq (by simp [he]) rfl (fun _=>rfl)
   ·have i4:((k:Int)=4)=False:=eq_false (by omega)
    refine WC.rs fun K hK=>?_
    simp only [↓EJ,FY,simprocAttr,Bj,i3,i4,Bool.not_true,Bool.not_false,e0]
    refine hK _ (Aa [4] ?_);clear hK K
    refine WC.ret ?_
    simp only [↓EJ,FY,simprocAttr,EQ,EF,Tryz.results81]
    exact Uq (by simp [he,h3,h4]) rfl (fun _=>rfl)
 ·have e0:((r.e:Int)=0)=False:=eq_false (by omega)
  refine WC.rs fun K hK=>?_
  simp only [↓EJ,FY,simprocAttr,Bj,Bool.not_true,Bool.not_false,e0]
  refine hK _ (Aa [4] ?_);clear hK K
  refine WC.ret ?_
  simp only [↓EJ,FY,simprocAttr,EQ,EF,Tryz.results81]
  exact Uq (by simp [he]) rfl (fun _=>rfl)
end Go.LexSem
-- TIGHT
set_option maxHeartbeats 4000000
set_option maxRecDepth 8000
namespace Go.LexSem
open Go Go.V Go.Proofs Go.Num

def He (ts:List Tok) (t:List UInt8) (r:RS):Bool × RS :=
 if isB ts r t=false then (false,r) else if Cz t=true∧r.s.opn=10 then (false,⟨r.s,9⟩) else (true,⟨⟨r.s.at_ + 1,Et t r.s.opn⟩,0⟩)
theorem Q4 (ts:List Tok) (r:RS) (i:PInv ts r.s) (t:List UInt8):FSem C 78 [.ptr (.o 0) 0 0,.str t] [Bj ts r] fun q st=>q=.ret (.bool (He ts t r).1)∧st=[Bj ts (He ts t r).2]:=by
 have hlt:=i.lt
 have hle:=i.le
 have ho1:=i.o1
 have ho2:=i.o2
 refine FSem.en 46 Tryz.func78 ?_
 simp only [Aj]
 refine WC.go ?_
 refine Am fun K1 hK1=>?_
 refine WC.rs fun K hK=>?_
 simp only [↓EJ,FY,simprocAttr]
 refine CallX.mk (CallW.one (r:=.o 0) (Z5 ts r i t) rfl (Bb ts r) (Bb ts r) (by simp only [CL]) (by simp [Ba,ren,A4]) ?_)
 simp only [↓EJ,FY,simprocAttr]
 refine hK _ ?_;clear hK K
 refine WC.cond rfl (fun h=>?_) fun h=>?_
 ·have hi:isB ts r t=false:=by simpa using h
  refine WC.go ?_
  refine WC.ret ?_
  simp only [↓EJ,FY,simprocAttr,EQ,EF,Tryz.results78]
  rw [He,if_pos hi]
  exact Uq rfl rfl (fun _=>rfl)
 have hi:isB ts r t=true:=by simpa using h
 have he:r.e=0:=by simp [isB] at hi;exact hi.1
 refine WC.skip (hK1 _ ?_)
 refine Bt (X:=Int) (fun o=>¬ (Cz t=true∧r.s.opn=10)∧o=Et t r.s.opn) (fun o=>⟨[(0,.ptr (.o 0) 0 0),(1,.str t)],[Bj ts ⟨⟨r.s.at_,o⟩,r.e⟩],[],[]⟩) ?_ ?_
 ·refine WC.go ?_
  refine WC.b1 ?_
  refine Bt (X:=Bool) (fun b=>b=Cz t) (fun b=>⟨[(10,.bool b),(9,.str t),(0,.ptr (.o 0) 0 0),(1,.str t)],[Bj ts r],[],[]⟩) ?_ ?_
  ·refine WC.go ?_
   refine WC.cond rfl (fun h=>?_) fun h=>?_
   ·refine WC.skip ?_
    try simp only [EQ,simprocAttr]
    refine ⟨true,[],by simp at h;simp [Cz,h],?_⟩
    rw [h]
    exact Conv.all (by simp only [EC,simprocAttr,Ap])
   ·rename_i n1
    refine WC.go (Aa [0,1,4,9,10,18,28] ?_)
    refine WC.cond rfl (fun h=>?_) fun h=>?_
    ·refine WC.skip ?_
     try simp only [EQ,simprocAttr]
     refine ⟨true,[],by simp at h;simp [Cz,h],?_⟩
     rw [h]
     exact Conv.all (by simp only [EC,simprocAttr,Ap])
    ·rename_i n2
     refine WC.r1 ?_
     simp only [↓EJ,FY,simprocAttr]
     try simp only [EQ,simprocAttr]
     refine ⟨decide (t=[123]),[],by simp at n1 n2 h;simp [Cz, *],?_⟩
     exact Conv.all (by simp only [EC,simprocAttr,Ap])
  ·rintro b rfl
   refine WC.cond rfl (fun h=>?_) fun h=>?_
   ·have hop:Cz t=true:=by simpa using h
    refine Am fun K4 hK4=>?_
    refine WC.rs fun K hK=>?_
    simp only [↓EJ,FY,simprocAttr,Bj]
    refine hK _ ?_;clear hK K
    refine WC.cond rfl (fun h=>?_) fun h=>?_
    ·have h10:r.s.opn=10:=by simpa using h
     refine WC.rs fun K hK=>?_
     simp only [↓EJ,FY,simprocAttr]
     refine CallX.mk (CallW.one (r:=.o 0) (S7 ts r i 9 (by decide)) rfl (Bb ts r) (Bb ts _) (by simp only [CL]) (by simp [Ba,ren,A4]) ?_)
     simp only [↓EJ,FY,simprocAttr]
     refine hK _ (Aa [0,1,4,9,10,28] ?_);clear hK K
     refine WC.go ?_
     refine WC.ret ?_
     simp only [↓EJ,FY,simprocAttr,EQ,EF,Tryz.results78]
     have e9:He ts t r=(false,⟨r.s,9⟩):=by simp [He,hi,hop,h10]
     rw [e9,if_pos he]
     exact Uq rfl rfl (fun _=>rfl)
    ·have h10:r.s.opn≠10:=by simpa using h
     refine WC.skip (hK4 _ ?_)
     refine WC.r1 ?_
     simp (disch:=omega) only [↓EJ,FY,simprocAttr,w64,Bh,Bj]
     try simp only [EQ,simprocAttr]
     refine ⟨Et t r.s.opn,[],⟨fun hh=>h10 hh.2,rfl⟩,?_⟩
     have e1:Et t r.s.opn=r.s.opn + 1:=by simp [Et,hop]
     rw [e1]
     exact Conv.all (by simp only [EC,simprocAttr,Bj,tks,Cb _ _])
   ·have hop:Cz t=false:=by simpa using h
    refine Bt (X:=Bool) (fun b=>b=Em t) (fun b=>⟨[(28,.bool b),(9,.str t),(0,.ptr (.o 0) 0 0),(1,.str t)],[Bj ts r],[],[]⟩) ?_ ?_
    ·refine WC.go ?_
     refine WC.cond rfl (fun h=>?_) fun h=>?_
     ·refine WC.skip ?_
      try simp only [EQ,simprocAttr]
      refine ⟨true,[],by simp at h;simp [Em,h],?_⟩
      rw [h]
      exact Conv.all (by simp only [EC,simprocAttr,Ap])
     ·rename_i n1
      refine WC.go ?_
      refine WC.cond rfl (fun h=>?_) fun h=>?_
      ·refine WC.skip ?_
       try simp only [EQ,simprocAttr]
       refine ⟨true,[],by simp at h;simp [Em,h],?_⟩
       rw [h]
       exact Conv.all (by simp only [EC,simprocAttr,Ap])
      ·rename_i n2
       refine WC.r1 ?_
       simp only [↓EJ,FY,simprocAttr]
       try simp only [EQ,simprocAttr]
       refine ⟨decide (t=[125]),[],by simp at n1 n2 h;simp [Em, *],?_⟩
       exact Conv.all (by simp only [EC,simprocAttr,Ap])
    ·rintro b rfl
     refine WC.cond rfl (fun h=>?_) fun h=>?_
     ·have hcl:Em t=true:=by simpa using h
      refine WC.r1 ?_
      simp (disch:=omega) only [↓EJ,FY,simprocAttr,w64,Bh,Bj]
      try simp only [EQ,simprocAttr]
      refine ⟨Et t r.s.opn,[],⟨fun hh=>by rw [hop] at hh;exact absurd hh.1 (by simp),rfl⟩,?_⟩
      have e1:Et t r.s.opn=r.s.opn - 1:=by simp [Et,hop,hcl]
      rw [e1]
      exact Conv.all (by simp only [EC,simprocAttr,Bj,tks,Cb _ _])
     ·have hcl:Em t=false:=by simpa using h
      refine WC.skip ?_
      try simp only [EQ,simprocAttr]
      refine ⟨Et t r.s.opn,[],⟨fun hh=>by rw [hop] at hh;exact absurd hh.1 (by simp),rfl⟩,?_⟩
      have e1:Et t r.s.opn=r.s.opn:=by simp [Et,hop,hcl]
      rw [e1]
      exact Conv.all (by simp only [EC,simprocAttr,Ap])
 ·rintro o ⟨hno,rfl⟩
  have hb1:Et t r.s.opn≤r.s.opn + 1∧r.s.opn - 1≤Et t r.s.opn:=by unfold Et;split <;> (try split) <;> omega
  refine WC.rs fun K hK=>?_
  simp (disch:=omega) only [↓EJ,FY,simprocAttr,w64,Bh,Bj]
  refine hK _ (Aa [0,1,4,9,10,28] ?_);clear hK K
  refine WC.go ?_
  refine WC.ret ?_
  simp only [↓EJ,FY,simprocAttr,EQ,EF,Tryz.results78]
  have e9:He ts t r=(true,⟨⟨r.s.at_ + 1,Et t r.s.opn⟩,0⟩):=by simp only [He,hi,Bool.true_eq_false,if_false,if_neg hno]
  rw [e9]
  refine Uq rfl ?_ (fun _=>rfl)
  simp only [Bj,tks,Int.natCast_add,he];rfl
/-! ### The rules of calls -/
theorem V8 (ts:List Tok) (t:List UInt8) (r:RS) (i:PInv ts r.s):RelV ts (Ak ts t r.s) r (He ts t r).1 (He ts t r).2∧((He ts t r).1=true→r.e=0∧(He ts t r).2.e=0∧rem ts (He ts t r).2.s + 1≤rem ts r.s):=by
 unfold He
 by_cases he:r.e=0
 ·have hb:isB ts r t=isP ts r.s t:=by simp [isB,he]
  rw [hb]
  unfold Ak
  cases hp:isP ts r.s t with
  | false =>
    refine ⟨?_,fun h=>by simp at h⟩
    exact ⟨i,Nat.le_refl _,fun _=>rfl,fun _=>(⟨rfl,by cases r;cases he;rfl⟩:OutV ts (.ok (false,r.s)) false r)⟩
  | true =>
    simp only [Bool.true_eq_false,if_false]
    by_cases ho:Cz t=true∧r.s.opn=10
    ·simp only [if_pos ho]
     exact ⟨⟨i,Nat.le_refl _,fun h=>absurd he h,fun _=>⟨rfl,by simp⟩⟩,fun h=>by cases h⟩
    ·simp only [if_neg ho]
     obtain ⟨o1,o2⟩:=Tb t r.s.opn
     have i':=i.go (Xb hp) o1 o2
     refine ⟨⟨i',Nat.le_succ _,fun h=>absurd he h,fun _=>⟨rfl,rfl⟩⟩,fun _=>⟨he,by trivial,?_⟩⟩
     have:=i'.lt
     unfold rem;dsimp only at this ⊢;omega
 ·have hb:isB ts r t=false:=by simp [isB,he]
  rw [hb,if_pos rfl]
  exact ⟨RelV.stop i he,fun h=>by cases h⟩
theorem CallX.tk {β:Type} {args':List PVal} {σ:St} {K KP:PVal→St→Prop} {u:TagK K KP} {p:Ref} {ts:List Tok} {r:RS} {t:List UInt8} {f:Bool→PS→PR β} {T:β→RS→Prop} (hx:Cy ts (bnd (Ak ts t r.s) f) r T) (i:PInv ts r.s)
  (hb:Ao σ.o σ.l p=some (Bj ts r)) (ha:args'=[.ptr p 0 0,.str t])
  (hok:∀ b r1,PInv ts r1.s→rem ts r1.s≤rem ts r.s→Cy ts (f b r1.s) r1 T→(b=true→r.e=0∧r1.e=0∧rem ts r1.s + 1≤rem ts r.s)→K (.bool b) (A1 σ p (Bj ts r1))):CallX C 78 args' σ K KP u:=by
 obtain ⟨h1,h2⟩:=V8 ts t r i
 exact CallX.mk (CallW.one (r:=p) (Q4 ts r i t) hb (Bb ts r) (Bb ts _) (fun _=>rfl) (by rw [ha];simp [Ba,ren,A4]) (hok _ _ h1.inv (Yq h1.le) (hx.step h1) h2))
theorem Fz {args':List PVal} {σ:St} {K KP:PVal→St→Prop} {u:TagK K KP} {p:Ref} {ts:List Tok} {r:RS} (i:PInv ts r.s) (t:List UInt8) (hb:Ao σ.o σ.l p=some (Bj ts r)) (ha:args'=[.ptr p 0 0,.str t])
  (hok:∀ b,(b=true→r.e=0∧isP ts r.s t=true)∧(b=false→r.e=0→isP ts r.s t=false)→K (.bool b) (A1 σ p (Bj ts r))):CallX C 81 args' σ K KP u :=
 CallX.mk (CallW.one (r:=p) (Z5 ts r i t) hb (Bb ts r) (Bb ts _) (fun _=>rfl) (by rw [ha];simp [Ba,ren,A4]) (hok _ (by
  unfold isB
  by_cases he:r.e=0 <;> simp [he])))
theorem CallX.kd {args':List PVal} {σ:St} {K KP:PVal→St→Prop} {u:TagK K KP} {p:Ref} {ts:List Tok} {r:RS} (i:PInv ts r.s) (k:Nat) (hb:Ao σ.o σ.l p=some (Bj ts r)) (ha:args'=[.ptr p 0 0,.int .i64 k])
  (hok:∀ b,(b=true→r.e=0∧(cur ts r.s).1=k)∧(b=false→r.e=0→(cur ts r.s).1≠k)→K (.bool b) (A1 σ p (Bj ts r))):CallX C 84 args' σ K KP u :=
 CallX.mk (CallW.one (r:=p) (kind_sem ts r i k) hb (Bb ts r) (Bb ts _) (fun _=>rfl) (by rw [ha];simp [Ba,ren,A4]) (hok _ (by
  unfold kindB
  by_cases he:r.e=0 <;> simp [he])))
theorem CallX.fl {args':List PVal} {σ:St} {K KP:PVal→St→Prop} {u:TagK K KP} {p:Ref} {ts:List Tok} {r:RS} (i:PInv ts r.s) (code:Nat) (hc:code≠0) (hb:Ao σ.o σ.l p=some (Bj ts r)) (ha:args'=[.ptr p 0 0,.int .i64 code])
  (hok:∀ r1,PInv ts r1.s→rem ts r1.s≤rem ts r.s→r1.e≠0→(∀ (α:Type) (v:α),RelV ts (.error (Gr (cur ts r.s) code)) r v r1)→K (.tuple []) (A1 σ p (Bj ts r1))):CallX C 85 args' σ K KP u :=
 CallX.mk (CallW.one (r:=p) (S7 ts r i code hc) hb (Bb ts r) (Bb ts _) (fun _=>rfl) (by rw [ha];simp [Ba,ren,A4]) (hok _ (by split <;> exact i) (by split <;> exact Nat.le_refl _) (by split <;> assumption) fun α v=>rfail_rel (enc:=fun _=>.any) ts r i code hc v))
theorem A0 (ts:List Tok) (r:RS) (i1:PInv ts r.s) (t:List UInt8):RSem 80 [.str t] ts r (Ah ts [t] r.s) (fun _=>.tuple []):=by
 obtain ⟨r1,rfl⟩:∃ r1,r1=r:=⟨_,rfl⟩
 have hx:Cy ts (Ah ts [t] r1.s) r1 (RelV ts (Ah ts [t] r1.s) r1):=fun _ _ h=>h
 have he:Ah ts [t] r1.s=bnd (Ak ts t r1.s) fun b s=>match b with
  | true=>.ok ((),s)
  | false=>.error (Gr (cur ts s) 4):=by
    unfold Ah bnd
    rcases Ak ts t r1.s with e | ⟨b,s⟩
    ·rfl
    ·cases b <;> rfl
 replace hx:=hx.to fun _=>he
 unfold RSem
 refine FSem.en 10 Tryz.func80 ?_
 simp only [Aj]
 refine WC.rs fun K hK=>?_
 simp only [↓EJ,FY,simprocAttr]
 refine CallX.tk hx i1 rfl rfl fun b2 r2 i2 q2 hx t2=>?_
 simp only [↓EJ,FY,simprocAttr]
 refine hK _ ?_;clear hK K
 refine WC.cond rfl (fun h=>?_) fun h=>?_
 ·refine WC.r1 ?_
  simp only [↓EJ,FY,simprocAttr]
  refine CallX.fl i2 4 (by decide) rfl rfl fun r3 i3 q3 n3 h3=>?_
  simp only [↓EJ,FY,simprocAttr,EQ,EF,Tryz.results80]
  cases b2 with
  | true=>cases h
  | false=>exact RSem.done (hx () r3 (h3 _ ())) rfl (fun _=>rfl) rfl
 ·refine WC.skip ?_
  simp only [↓EJ,FY,simprocAttr,EQ,EF,Tryz.results80]
  cases b2 with
  | false=>cases h
  | true=>exact RSem.done (hx () r2 (RelV.ok i2)) rfl (fun _=>rfl) rfl
theorem Fj (ts:List Tok) (r1:RS) (i1:PInv ts r1.s):RSem 79 [] ts r1 (C2 ts r1.s) .str:=by
 have hx:Cy ts (C2 ts r1.s) r1 (RelV ts (C2 ts r1.s) r1):=fun _ _ h=>h
 have hlt:=i1.lt
 have hle:=i1.le
 unfold RSem
 refine FSem.en 27 Tryz.func79 ?_
 simp only [Aj]
 refine WC.go ?_
 refine Am fun K1 hK1=>?_
 refine WC.rs fun K hK=>?_
 simp only [↓EJ,FY,simprocAttr]
 refine CallX.kd i1 1 rfl rfl fun b hb=>?_
 simp only [↓EJ,FY,simprocAttr]
 refine hK _ ?_;clear hK K
 refine WC.cond rfl (fun h=>?_) fun h=>?_
 ·refine WC.rs fun K hK=>?_
  simp only [↓EJ,FY,simprocAttr]
  refine CallX.fl i1 4 (by decide) rfl rfl fun r3 i3 q3 n3 h3=>?_
  simp only [↓EJ,FY,simprocAttr]
  refine hK _ ?_;clear hK K
  refine WC.go ?_
  refine WC.ret ?_
  simp only [↓EJ,FY,simprocAttr,EQ,EF,Tryz.results79]
  have hk:r1.e=0→C2 ts r1.s=.error (Gr (cur ts r1.s) 4):=fun he=>by rw [C2,if_pos (hb.2 (by simpa using h) he)]
  exact RSem.done (hx.to hk [] r3 (h3 _ [])) rfl (fun _=>rfl) rfl
 ·refine WC.skip (hK1 _ ?_)
  obtain ⟨he,hk⟩:=hb.1 (by simpa using h)
  have i2:=i1.go (o:=r1.s.opn) (by omega) (by omega) (by omega)
  have hg:=If i1.lt
  refine WC.rs fun K hK=>?_
  simp (disch:=omega) only [↓EJ,FY,simprocAttr,w64,Bh,Bj]
  refine hK _ (Aa [0,2] ?_);clear hK K
  have hw:IntKind.wrap .i64 ((r1.s.at_:Int) + 1 - 1)=r1.s.at_:=by rw [Int.add_sub_cancel];exact w64 (by omega) (by omega)
  refine WC.dg [⟨0,0,false,[]⟩,⟨1,0,false,[]⟩,⟨2,0,false,[]⟩,⟨3,0,false,[]⟩,⟨4,0,false,[]⟩,⟨5,0,false,[]⟩,⟨6,0,false,[]⟩,⟨7,0,false,[]⟩,⟨8,0,false,[]⟩,⟨9,0,false,[]⟩,⟨10,0,false,[]⟩,⟨11,0,false,[]⟩,⟨12,0,false,[]⟩] [0,1,3,7,0,16,48,112,240,511,1023,2047,4095] fun K hK=>?_
  simp only [↓EJ,FY,simprocAttr,Bj,tks,List.length_map,Int.toNat_natCast,hw,hg,Bn]
  repeat refine And.intro (by omega) ?_
  refine hK _ (Aa [2] ?_);clear hK K
  refine WC.ret ?_
  simp only [↓EJ,FY,simprocAttr,EQ,EF,Tryz.results79]
  have hn:r1.e=0→C2 ts r1.s=.ok ((cur ts r1.s).2.1,goS r1.s):=fun _=>by rw [C2,if_neg (by omega)];rfl
  refine RSem.done (r1:=⟨goS r1.s,0⟩) (hx.to hn _ _ ⟨i2,Nat.le_succ _,fun h=>absurd he h,fun _=>⟨rfl,rfl⟩⟩) rfl (fun _=>rfl) ?_
  simp only [Bj,tks,goS,Int.natCast_add,he];rfl
end Go.LexSem
-- TIGHT
set_option maxHeartbeats 4000000
set_option maxRecDepth 8000
namespace Go.LexSem
open Go Go.V Go.Proofs Go.Num

def lowB (c:UInt8):Bool:=decide (97≤c.toNat) && decide (c.toNat≤122)
/-- The words are no signs. -/
def Sr (ts:List Tok):Prop:=∀ t∈ts,t.1=3→lowB (t.2.1.headD 0)=true
theorem isP_sign {ts:List Tok} (W:Sr ts) {s:PS} (i:PInv ts s) {t:List UInt8} (ht:lowB (t.headD 0)=false):isP ts s t=(decide ((cur ts s).1=4) && decide ((cur ts s).2.1=t)):=by
 have h:=W (cur ts s) (I7 i)
 unfold isP
 by_cases h3:(cur ts s).1=3
 ·have h4:(cur ts s).1≠4:=by omega
  have:(cur ts s).2.1≠t:=fun e=>by have:=h h3;rw [e,ht] at this;cases this
  simp [h3,this]
 ·simp [h3]
theorem N9 {ts:List Tok} (W:Sr ts) {s:PS} (i:PInv ts s) {t:List UInt8} (ht:lowB (t.headD 0)=false) (ho:Cz t=false) (hc:Em t=false) :
  Ak ts t s=if (cur ts s).1=4∧(cur ts s).2.1=t then .ok (true,goS s) else .ok (false,s):=by
 unfold Ak
 rw [isP_sign W i ht]
 by_cases h:(cur ts s).1=4∧(cur ts s).2.1=t
 ·rw [if_pos h,if_neg (by simp [h.1,h.2]),if_neg (by simp [ho])]
  simp [Et,ho,hc,goS]
 ·rw [if_neg h,if_pos (by simpa using h)]
theorem Vd {α β:Type} {c:Prop} [Decidable c] {a b:PR α} {f:α→PS→PR β}:bnd (if c then a else b) f=if c then bnd a f else bnd b f:=by split <;> rfl
theorem Y6 {ts:List Tok} (W:Sr ts) {s:PS} (i:PInv ts s) (k l op:Nat) (t:List UInt8) (hl:lvs l=[(t,op)]) (ht:lowB (t.headD 0)=false) (ho:Cz t=false) (hc:Em t=false) (e:Ex) :
  Fw ts (k + 1) l e s=bnd (Ak ts t s) fun b s1=>match b with
   | true=>bnd (B4 ts k l s1) fun a s2=>Fw ts k l (exN op [e,a]) s2
   | false=>.ok (e,s1):=by
 rw [Fw,N9 W i ht ho hc,Vd,Yx,hl]
 by_cases h4:(cur ts s).1=4
 ·by_cases h:(cur ts s).2.1=t
  ·simp [h4,h,List.lookup,bnd]
  ·have hb:((cur ts s).2.1 == t)=false:=by simpa using h
   simp [h4,h,hb,List.lookup,bnd]
 ·simp [h4,bnd]
theorem loop_2 {ts:List Tok} (W:Sr ts) {s:PS} (i:PInv ts s) (k:Nat) (e:Ex) :
  Fw ts (k + 1) 2 e s=bnd (Ak ts [43] s) fun b s1=>match b with
   | true=>bnd (B4 ts k 2 s1) fun a s2=>Fw ts k 2 (exN 12 [e,a]) s2
   | false=>bnd (Ak ts [45] s1) fun b s1=>match b with
     | true=>bnd (B4 ts k 2 s1) fun a s2=>Fw ts k 2 (exN 13 [e,a]) s2
     | false=>.ok (e,s1):=by
 rw [Fw,N9 W i (t:=[43]) (by decide) rfl rfl,Vd,Yx]
 by_cases h4:(cur ts s).1=4
 ·by_cases h:(cur ts s).2.1=[43]
  ·simp [h4,h,lvs,List.lookup,bnd]
  ·have hb:((cur ts s).2.1 == [43])=false:=by simpa using h
   simp only [h4,h,and_false,if_false,if_true,Ay]
   rw [N9 W i (t:=[45]) (by decide) rfl rfl,Vd]
   by_cases h':(cur ts s).2.1=[45]
   ·simp [h4,h',lvs,List.lookup,bnd]
   ·have hb':((cur ts s).2.1 == [45])=false:=by simpa using h'
    simp [h4,h',hb,hb',lvs,List.lookup,bnd]
 ·simp only [h4,false_and,if_false,Ay]
  rw [N9 W i (t:=[45]) (by decide) rfl rfl,Vd]
  simp [h4,bnd]
theorem Te (ts:List Tok) (n:Nat) (s:PS):B4 ts (n + 1) 0 s=Ch ts n 1 s:=by rw [B4];rfl
theorem Td (ts:List Tok) (n:Nat) (s:PS):B4 ts (n + 1) 1 s=Km ts n s:=by rw [B4];rfl
theorem Oq (ts:List Tok) (n:Nat) (s:PS):B4 ts (n + 1) 2 s=Ch ts n 3 s:=by rw [B4];rfl
theorem Tc (ts:List Tok) (n:Nat) (s:PS):B4 ts (n + 1) 3 s=D0 ts n s:=by rw [B4];rfl
/-- What the reader's methods for expressions do. -/
structure RAll (ts:List Tok) (n:Nat):Prop where
 expr:∀ r,PInv ts r.s→40 * rem ts r.s + 35≤n→RSem 149 [] ts r (Eg ts n r.s) exV
 or:∀ r,PInv ts r.s→40 * rem ts r.s + 34≤n→RSem 175 [] ts r (Ch ts n 0 r.s) exV
 and:∀ r,PInv ts r.s→40 * rem ts r.s + 26≤n→RSem 192 [] ts r (Ch ts n 1 r.s) exV
 cmp:∀ r,PInv ts r.s→40 * rem ts r.s + 22≤n→RSem 204 [] ts r (Km ts n r.s) exV
 sum:∀ r,PInv ts r.s→40 * rem ts r.s + 18≤n→RSem 212 [] ts r (Ch ts n 2 r.s) exV
 product:∀ r,PInv ts r.s→40 * rem ts r.s + 10≤n→RSem 219 [] ts r (Ch ts n 3 r.s) exV
 unary:∀ r,PInv ts r.s→40 * rem ts r.s + 5≤n→RSem 221 [] ts r (D0 ts n r.s) exV
 primary:∀ r,PInv ts r.s→40 * rem ts r.s + 4≤n→RSem 222 [] ts r (C1 ts n r.s) exV
 list:∀ r,PInv ts r.s→40 * rem ts r.s + 36≤n→RSem 178 [] ts r (Ed ts n r.s) Dv
theorem zex:PVal.agg [.int .i64 0,.int .i64 0,.bool false,.nils,.nils,.str [],.nils]=exV (exN 0 []):=by rw [I5,C5];rfl
theorem Xt:[PVal.int .i64 0,.int .i64 0,.bool false,.nils,.nils,.str [],.nils]=exC (exN 0 []):=by
 have:=zex
 rw [exV] at this
 injection this
theorem Fh (op:Nat) (a b:Ex):FSem C 193 [.int .i64 op,exV a,exV b] [] fun r st=>r=.ret (exV (exN op [a,b]))∧st=[]:=by
 rw [I5,E1 (by simp)]
 refine FSem.en 12 Tryz.func193 ?_
 simp only [Aj]
 refine WC.rs fun K hK=>?_
 simp only [↓EJ,FY,simprocAttr,XS]
 refine hK _ ?_;clear hK K
 refine A2 [3] fun K hK=>?_
 simp only [↓EJ,FY,simprocAttr,EZ,XS]
 refine hK _ (Aa [6] ?_);clear hK K
 refine WC.ret ?_
 simp only [↓EJ,FY,simprocAttr,EQ,EF,Tryz.results193]
 exact EndsIn.plain (by simp only [CL,PCL,and_self]) (fun k hk=>by simp at hk) ⟨by simp [XS.1],rfl⟩
theorem Qe (op:Nat) (a:Ex):FSem C 213 [.int .i64 op,exV a] [] fun r st=>r=.ret (exV (exN op [a]))∧st=[]:=by
 rw [I5,E1 (by simp)]
 refine FSem.en 9 Tryz.func213 ?_
 simp only [Aj]
 refine WC.rs fun K hK=>?_
 simp only [↓EJ,FY,simprocAttr,XS]
 refine hK _ ?_;clear hK K
 refine A2 [2] fun K hK=>?_
 simp only [↓EJ,FY,simprocAttr,EZ,XS]
 refine hK _ ?_;clear hK K
 refine WC.ret ?_
 simp only [↓EJ,FY,simprocAttr,EQ,EF,Tryz.results213]
 exact EndsIn.plain (by simp only [CL,PCL,and_self]) (fun k hk=>by simp at hk) ⟨by simp [XS.1],rfl⟩
theorem cy0 {α:Type} {ts:List Tok} {r:RS} {x:PR α}:Cy ts x r (RelV ts x r):=fun _ _ h=>h
theorem Yn (ts:List Tok) (n:Nat) (H:RAll ts n) (r1:RS) (i1:PInv ts r1.s) (hn:40 * rem ts r1.s + 35≤n + 1):RSem 149 [] ts r1 (Eg ts (n + 1) r1.s) exV:=by
 have hx:=cy0 (ts:=ts) (r:=r1) (x:=Eg ts (n + 1) r1.s)
 replace hx:=hx.to fun _=>(by rw [Eg])
 unfold RSem
 refine FSem.en 27 Tryz.func149 ?_
 simp only [Aj]
 refine WC.go ?_
 refine Am fun K1 hK1=>?_
 refine WC.rs fun K hK=>?_
 simp only [↓EJ,FY,simprocAttr,Bj]
 refine hK _ ?_;clear hK K
 refine WC.cond rfl (fun h=>?_) fun h=>?_
 ·have he:r1.e≠0:=by simp at h;omega
  refine WC.go (Aa [0,2,3,4,15] ?_)
  refine WC.ret ?_
  simp only [↓EJ,FY,simprocAttr,EQ,EF,Tryz.results149]
  exact RSem.done (v:=exN 0 []) (RelV.stop i1 he) zex (Au _) rfl
 refine WC.skip (hK1 _ ?_)
 refine WC.rs fun K hK=>?_
 simp only [↓EJ,FY,simprocAttr]
 refine Ad hx (H.or r1 i1 (by omega)) (by simp only [CL,PCL,and_self]) Au rfl rfl fun a r2 i2 q2 h2 hx=>?_
 simp only [↓EJ,FY,simprocAttr,XS]
 refine hK _ ?_;clear hK K
 refine Am fun K2 hK2=>?_
 refine WC.rs fun K hK=>?_
 simp only [↓EJ,FY,simprocAttr]
 refine CallX.tk hx i2 rfl rfl fun b3 r3 i3 q3 hx t3=>?_
 simp only [↓EJ,FY,simprocAttr]
 refine hK _ ?_;clear hK K
 cases b3
 ·refine WC.cond rfl (fun h=>?_) fun h=>?_
  rotate_left
  ·cases h
  refine WC.rs fun K hK=>?_
  simp only [↓EJ,FY,simprocAttr,XS]
  refine hK _ (Aa [0,2,3,4] ?_);clear hK K
  refine WC.ret ?_
  simp only [↓EJ,FY,simprocAttr,EQ,EF,Tryz.results149,XS]
  exact RSem.done (hx a r3 (RelV.ok i3)) rfl (of_eq_true (by simp only [CL,PCL,and_self])) rfl
 refine WC.cond rfl (fun h=>?_) fun h=>?_
 ·cases h
 refine WC.skip (hK2 _ ?_)
 dsimp only at hx
 have y3:=(t3 rfl).2.2
 refine WC.rs fun K hK=>?_
 simp only [↓EJ,FY,simprocAttr]
 refine Ad hx (H.expr r3 i3 (by omega)) (by simp only [CL,PCL,and_self]) Au rfl rfl fun y r4 i4 q4 h4 hx=>?_
 simp only [↓EJ,FY,simprocAttr,XS]
 refine hK _ ?_;clear hK K
 refine WC.rs fun K hK=>?_
 simp only [↓EJ,FY,simprocAttr]
 refine Ad hx (A0 ts r4 i4 [58]) (by simp only [CL,PCL,and_self]) (fun _ _=>rfl) rfl rfl fun u r5 i5 q5 h5 hx=>?_
 simp only [↓EJ,FY,simprocAttr]
 refine hK _ ?_;clear hK K
 refine WC.dg [⟨0,0,true,[]⟩,⟨1,0,true,[]⟩,⟨2,0,false,[]⟩,⟨3,1,false,[0,1]⟩,⟨4,2,false,[]⟩,⟨5,0,false,[]⟩,⟨6,1,false,[]⟩] [0,0,0,4,15,31,63] fun K hK=>?_
 simp only [↓EJ,FY,simprocAttr,XS]
 refine Ad hx (H.expr r5 i5 (by omega)) (by simp only [CL,PCL,and_self]) Au rfl rfl fun z r6 i6 q6 h6 hx=>?_
 simp only [↓EJ,FY,simprocAttr,XS]
 refine hK _ (Aa [2] ?_);clear hK K
 refine WC.ret ?_
 simp only [↓EJ,FY,simprocAttr,EQ,EF,Tryz.results149,XS]
 exact RSem.done (hx (exN 15 [a,y,z]) r6 (RelV.ok i6)) rfl (of_eq_true (by simp only [CL,PCL,and_self])) rfl
end Go.LexSem
-- TIGHT
set_option maxHeartbeats 4000000
set_option maxRecDepth 8000
namespace Go.LexSem
open Go Go.V Go.Proofs Go.Num
theorem Ez {ts:List Tok} {s:PS} (i:PInv ts s):1≤rem ts s:=by have:=i.lt;unfold rem;omega
theorem J0 {ts:List Tok} {s:PS} (i:PInv ts s):rem ts s≤10000:=by have:=i.le;unfold rem;omega
theorem ror_step (ts:List Tok) (W:Sr ts) (n:Nat) (H:∀ m,m≤n→RAll ts m) (r1:RS) (i1:PInv ts r1.s) (hn:40 * rem ts r1.s + 34≤n + 1):RSem 175 [] ts r1 (Ch ts (n + 1) 0 r1.s) exV:=by
 have hx:=cy0 (ts:=ts) (r:=r1) (x:=Ch ts (n + 1) 0 r1.s)
 obtain ⟨n,rfl⟩:∃ k,n=k + 1:=⟨n - 1,by omega⟩
 replace hx:=hx.to fun _=>(by rw [Ch,Te])
 unfold RSem
 refine FSem.en 13 Tryz.func175 ?_
 simp only [Aj]
 refine WC.go ?_
 refine WC.rs fun K hK=>?_
 simp only [↓EJ,FY,simprocAttr]
 refine Ad hx ((H n (by omega)).and r1 i1 (by omega)) (by simp only [CL,PCL,and_self]) Au rfl rfl fun a r2 i2 q2 h2 hx=>?_
 simp only [↓EJ,FY,simprocAttr,XS]
 refine hK _ ?_;clear hK K
 refine WC.bs fun K0 hK0=>?_
 refine WC.loop (X:=Nat × Ex × RS) (fun x=>⟨[(3,.ptr (.l 1) 0 0),(2,.ptr (.l 0) 0 0),(0,.ptr (.o 0) 0 0)],[Bj ts x.2.2],[.row [.agg (exC (exN 0 []))] 7 53,.row [.agg (exC x.2.1)] 7 53],[]⟩) (fun y=>y.1≤n + 1∧PInv ts y.2.2.s∧40 * rem ts y.2.2.s + 2≤y.1∧Cy ts (Fw ts y.1 0 y.2.1 y.2.2.s) y.2.2 (RelV ts (Ch ts (n + 1 + 1) 0 r1.s) r1)) (fun x=>x.1) (n + 1,a,r2) [0,1] ⟨Nat.le_refl _,i2,by dsimp only;omega,hx⟩ ?_ ?_
 ·exact Conv.all (by simp only [EC,simprocAttr,PRN,Xt,Ap])
 clear hx q2 h2 i2 r2 a
 rintro ⟨m,a,r1⟩ ⟨hm,i1,hr,hx⟩
 dsimp only at hm i1 hr hx ⊢
 have hp:=Ez i1
 obtain ⟨m,rfl⟩:∃ k,m=k + 1 + 1:=⟨m - 2,by omega⟩
 replace hx:=hx.to fun _=>Y6 W i1 (m + 1) 0 7 [124,124] rfl (by decide) rfl rfl a
 refine Am fun K3 hK3=>?_
 refine WC.rs fun K hK=>?_
 simp only [↓EJ,FY,simprocAttr]
 refine CallX.tk hx i1 rfl rfl fun b2 r2 i2 q2 hx t2=>?_
 simp only [↓EJ,FY,simprocAttr]
 refine hK _ ?_;clear hK K
 refine WC.cond rfl (fun h=>?_) fun h=>?_
 ·cases h
  have y2:=(t2 rfl).2.2
  dsimp only at hx
  rw [Te] at hx
  refine WC.skip (hK3 _ ?_)
  refine WC.b1 ?_
  refine Dn [⟨0,0,true,[]⟩,⟨1,0,false,[]⟩,⟨2,1,false,[0]⟩,⟨3,1,false,[]⟩,⟨4,1,false,[]⟩] [0,0,2,7,15] ?_
  simp only [↓EJ,FY,simprocAttr,XS]
  refine Ad hx ((H m (by omega)).and r2 i2 (by omega)) (by simp only [CL,PCL,and_self]) Au rfl rfl fun c r3 i3 q3 h3 hx=>?_
  simp only [↓EJ,FY,simprocAttr,XS]
  refine CallX.mk (CallW.pure (Fh 7 a c) (by simp only [CL,PCL,and_self]) (by simp only [CL,PCL,and_self]) ?_)
  simp only [↓EJ,FY,simprocAttr,XS]
  try simp only [EQ,simprocAttr]
  refine ⟨(m + 1,exN 7 [a,c],r3),[0,1],⟨by dsimp only;omega,i3,by dsimp only;omega,hx⟩,by dsimp only;omega,?_⟩
  exact Conv.all (by simp only [EC,simprocAttr,PRN,XS,Ap])
 ·cases h
  dsimp only at hx
  refine WC.exit (hK0 _ ?_)
  refine WC.rs fun K hK=>?_
  simp only [↓EJ,FY,simprocAttr,XS]
  refine hK _ ?_;clear hK K
  refine WC.ret ?_
  simp only [↓EJ,FY,simprocAttr,EQ,EF,Tryz.results175,XS]
  exact RSem.done (hx a r2 (RelV.ok i2)) rfl (of_eq_true (by simp only [CL,PCL,and_self])) rfl
theorem rand_step (ts:List Tok) (W:Sr ts) (n:Nat) (H:∀ m,m≤n→RAll ts m) (r1:RS) (i1:PInv ts r1.s) (hn:40 * rem ts r1.s + 26≤n + 1):RSem 192 [] ts r1 (Ch ts (n + 1) 1 r1.s) exV:=by
 have hx:=cy0 (ts:=ts) (r:=r1) (x:=Ch ts (n + 1) 1 r1.s)
 obtain ⟨n,rfl⟩:∃ k,n=k + 1:=⟨n - 1,by omega⟩
 replace hx:=hx.to fun _=>(by rw [Ch,Td])
 unfold RSem
 refine FSem.en 13 Tryz.func192 ?_
 simp only [Aj]
 refine WC.go ?_
 refine WC.rs fun K hK=>?_
 simp only [↓EJ,FY,simprocAttr]
 refine Ad hx ((H n (by omega)).cmp r1 i1 (by omega)) (by simp only [CL,PCL,and_self]) Au rfl rfl fun a r2 i2 q2 h2 hx=>?_
 simp only [↓EJ,FY,simprocAttr,XS]
 refine hK _ ?_;clear hK K
 refine WC.bs fun K0 hK0=>?_
 refine WC.loop (X:=Nat × Ex × RS) (fun x=>⟨[(3,.ptr (.l 1) 0 0),(2,.ptr (.l 0) 0 0),(0,.ptr (.o 0) 0 0)],[Bj ts x.2.2],[.row [.agg (exC (exN 0 []))] 7 53,.row [.agg (exC x.2.1)] 7 53],[]⟩) (fun y=>y.1≤n + 1∧PInv ts y.2.2.s∧40 * rem ts y.2.2.s + 2≤y.1∧Cy ts (Fw ts y.1 1 y.2.1 y.2.2.s) y.2.2 (RelV ts (Ch ts (n + 1 + 1) 1 r1.s) r1)) (fun x=>x.1) (n + 1,a,r2) [0,1] ⟨Nat.le_refl _,i2,by dsimp only;omega,hx⟩ ?_ ?_
 ·exact Conv.all (by simp only [EC,simprocAttr,PRN,Xt,Ap])
 clear hx q2 h2 i2 r2 a
 rintro ⟨m,a,r1⟩ ⟨hm,i1,hr,hx⟩
 dsimp only at hm i1 hr hx ⊢
 have hp:=Ez i1
 obtain ⟨m,rfl⟩:∃ k,m=k + 1 + 1:=⟨m - 2,by omega⟩
 replace hx:=hx.to fun _=>Y6 W i1 (m + 1) 1 6 [38,38] rfl (by decide) rfl rfl a
 refine Am fun K3 hK3=>?_
 refine WC.rs fun K hK=>?_
 simp only [↓EJ,FY,simprocAttr]
 refine CallX.tk hx i1 rfl rfl fun b2 r2 i2 q2 hx t2=>?_
 simp only [↓EJ,FY,simprocAttr]
 refine hK _ ?_;clear hK K
 refine WC.cond rfl (fun h=>?_) fun h=>?_
 ·cases h
  have y2:=(t2 rfl).2.2
  dsimp only at hx
  rw [Td] at hx
  refine WC.skip (hK3 _ ?_)
  refine WC.b1 ?_
  refine Dn [⟨0,0,true,[]⟩,⟨1,0,false,[]⟩,⟨2,1,false,[0]⟩,⟨3,1,false,[]⟩,⟨4,1,false,[]⟩] [0,0,2,7,15] ?_
  simp only [↓EJ,FY,simprocAttr,XS]
  refine Ad hx ((H m (by omega)).cmp r2 i2 (by omega)) (by simp only [CL,PCL,and_self]) Au rfl rfl fun c r3 i3 q3 h3 hx=>?_
  simp only [↓EJ,FY,simprocAttr,XS]
  refine CallX.mk (CallW.pure (Fh 6 a c) (by simp only [CL,PCL,and_self]) (by simp only [CL,PCL,and_self]) ?_)
  simp only [↓EJ,FY,simprocAttr,XS]
  try simp only [EQ,simprocAttr]
  refine ⟨(m + 1,exN 6 [a,c],r3),[0,1],⟨by dsimp only;omega,i3,by dsimp only;omega,hx⟩,by dsimp only;omega,?_⟩
  exact Conv.all (by simp only [EC,simprocAttr,PRN,XS,Ap])
 ·cases h
  dsimp only at hx
  refine WC.exit (hK0 _ ?_)
  refine WC.rs fun K hK=>?_
  simp only [↓EJ,FY,simprocAttr,XS]
  refine hK _ ?_;clear hK K
  refine WC.ret ?_
  simp only [↓EJ,FY,simprocAttr,EQ,EF,Tryz.results192,XS]
  exact RSem.done (hx a r2 (RelV.ok i2)) rfl (of_eq_true (by simp only [CL,PCL,and_self])) rfl
theorem Sh (ts:List Tok) (W:Sr ts) (n:Nat) (H:∀ m,m≤n→RAll ts m) (r1:RS) (i1:PInv ts r1.s) (hn:40 * rem ts r1.s + 10≤n + 1):RSem 219 [] ts r1 (Ch ts (n + 1) 3 r1.s) exV:=by
 have hx:=cy0 (ts:=ts) (r:=r1) (x:=Ch ts (n + 1) 3 r1.s)
 obtain ⟨n,rfl⟩:∃ k,n=k + 1:=⟨n - 1,by omega⟩
 replace hx:=hx.to fun _=>(by rw [Ch,Tc])
 unfold RSem
 refine FSem.en 13 Tryz.func219 ?_
 simp only [Aj]
 refine WC.go ?_
 refine WC.rs fun K hK=>?_
 simp only [↓EJ,FY,simprocAttr]
 refine Ad hx ((H n (by omega)).unary r1 i1 (by omega)) (by simp only [CL,PCL,and_self]) Au rfl rfl fun a r2 i2 q2 h2 hx=>?_
 simp only [↓EJ,FY,simprocAttr,XS]
 refine hK _ ?_;clear hK K
 refine WC.bs fun K0 hK0=>?_
 refine WC.loop (X:=Nat × Ex × RS) (fun x=>⟨[(3,.ptr (.l 1) 0 0),(2,.ptr (.l 0) 0 0),(0,.ptr (.o 0) 0 0)],[Bj ts x.2.2],[.row [.agg (exC (exN 0 []))] 7 53,.row [.agg (exC x.2.1)] 7 53],[]⟩) (fun y=>y.1≤n + 1∧PInv ts y.2.2.s∧40 * rem ts y.2.2.s + 2≤y.1∧Cy ts (Fw ts y.1 3 y.2.1 y.2.2.s) y.2.2 (RelV ts (Ch ts (n + 1 + 1) 3 r1.s) r1)) (fun x=>x.1) (n + 1,a,r2) [0,1] ⟨Nat.le_refl _,i2,by dsimp only;omega,hx⟩ ?_ ?_
 ·exact Conv.all (by simp only [EC,simprocAttr,PRN,Xt,Ap])
 clear hx q2 h2 i2 r2 a
 rintro ⟨m,a,r1⟩ ⟨hm,i1,hr,hx⟩
 dsimp only at hm i1 hr hx ⊢
 have hp:=Ez i1
 obtain ⟨m,rfl⟩:∃ k,m=k + 1 + 1:=⟨m - 2,by omega⟩
 replace hx:=hx.to fun _=>Y6 W i1 (m + 1) 3 14 [42] rfl (by decide) rfl rfl a
 refine Am fun K3 hK3=>?_
 refine WC.rs fun K hK=>?_
 simp only [↓EJ,FY,simprocAttr]
 refine CallX.tk hx i1 rfl rfl fun b2 r2 i2 q2 hx t2=>?_
 simp only [↓EJ,FY,simprocAttr]
 refine hK _ ?_;clear hK K
 refine WC.cond rfl (fun h=>?_) fun h=>?_
 ·cases h
  have y2:=(t2 rfl).2.2
  dsimp only at hx
  rw [Tc] at hx
  refine WC.skip (hK3 _ ?_)
  refine WC.b1 ?_
  refine Dn [⟨0,0,true,[]⟩,⟨1,0,false,[]⟩,⟨2,1,false,[0]⟩,⟨3,1,false,[]⟩,⟨4,1,false,[]⟩] [0,0,2,7,15] ?_
  simp only [↓EJ,FY,simprocAttr,XS]
  refine Ad hx ((H m (by omega)).unary r2 i2 (by omega)) (by simp only [CL,PCL,and_self]) Au rfl rfl fun c r3 i3 q3 h3 hx=>?_
  simp only [↓EJ,FY,simprocAttr,XS]
  refine CallX.mk (CallW.pure (Fh 14 a c) (by simp only [CL,PCL,and_self]) (by simp only [CL,PCL,and_self]) ?_)
  simp only [↓EJ,FY,simprocAttr,XS]
  try simp only [EQ,simprocAttr]
  refine ⟨(m + 1,exN 14 [a,c],r3),[0,1],⟨by dsimp only;omega,i3,by dsimp only;omega,hx⟩,by dsimp only;omega,?_⟩
  exact Conv.all (by simp only [EC,simprocAttr,PRN,XS,Ap])
 ·cases h
  dsimp only at hx
  refine WC.exit (hK0 _ ?_)
  refine WC.rs fun K hK=>?_
  simp only [↓EJ,FY,simprocAttr,XS]
  refine hK _ ?_;clear hK K
  refine WC.ret ?_
  simp only [↓EJ,FY,simprocAttr,EQ,EF,Tryz.results219,XS]
  exact RSem.done (hx a r2 (RelV.ok i2)) rfl (of_eq_true (by simp only [CL,PCL,and_self])) rfl
theorem rsum_step (ts:List Tok) (W:Sr ts) (n:Nat) (H:∀ m,m≤n→RAll ts m) (r1:RS) (i1:PInv ts r1.s) (hn:40 * rem ts r1.s + 18≤n + 1):RSem 212 [] ts r1 (Ch ts (n + 1) 2 r1.s) exV:=by
 have hx:=cy0 (ts:=ts) (r:=r1) (x:=Ch ts (n + 1) 2 r1.s)
 obtain ⟨n,rfl⟩:∃ k,n=k + 1:=⟨n - 1,by omega⟩
 replace hx:=hx.to fun _=>(by rw [Ch,Oq])
 unfold RSem
 refine FSem.en 21 Tryz.func212 ?_
 simp only [Aj]
 refine WC.go ?_
 refine WC.rs fun K hK=>?_
 simp only [↓EJ,FY,simprocAttr]
 refine Ad hx ((H n (by omega)).product r1 i1 (by omega)) (by simp only [CL,PCL,and_self]) Au rfl rfl fun a r2 i2 q2 h2 hx=>?_
 simp only [↓EJ,FY,simprocAttr,XS]
 refine hK _ ?_;clear hK K
 refine WC.b1 ?_
 refine WC.loop (X:=Nat × Ex × RS) (fun x=>⟨[(3,.ptr (.l 1) 0 0),(2,.ptr (.l 0) 0 0),(0,.ptr (.o 0) 0 0)],[Bj ts x.2.2],[.row [.agg (exC (exN 0 []))] 7 53,.row [.agg (exC x.2.1)] 7 53],[]⟩) (fun y=>y.1≤n + 1∧PInv ts y.2.2.s∧40 * rem ts y.2.2.s + 2≤y.1∧Cy ts (Fw ts y.1 2 y.2.1 y.2.2.s) y.2.2 (RelV ts (Ch ts (n + 1 + 1) 2 r1.s) r1)) (fun x=>x.1) (n + 1,a,r2) [0,1] ⟨Nat.le_refl _,i2,by dsimp only;omega,hx⟩ ?_ ?_
 ·exact Conv.all (by simp only [EC,simprocAttr,PRN,Xt,Ap])
 clear hx q2 h2 i2 r2 a
 rintro ⟨m,a,r1⟩ ⟨hm,i1,hr,hx⟩
 dsimp only at hm i1 hr hx ⊢
 have hp:=Ez i1
 obtain ⟨m,rfl⟩:∃ k,m=k + 1 + 1:=⟨m - 2,by omega⟩
 replace hx:=hx.to fun _=>loop_2 W i1 (m + 1) a
 refine WC.b1 ?_
 refine WC.b1 ?_
 refine WC.rs fun K hK=>?_
 simp only [↓EJ,FY,simprocAttr]
 refine CallX.tk hx i1 rfl rfl fun b2 r2 i2 q2 hx t2=>?_
 simp only [↓EJ,FY,simprocAttr]
 refine hK _ ?_;clear hK K
 refine WC.cond rfl (fun h=>?_) fun h=>?_
 ·cases h
  have y2:=(t2 rfl).2.2
  dsimp only at hx
  rw [Oq] at hx
  refine Dn [⟨0,0,true,[]⟩,⟨1,0,false,[]⟩,⟨2,1,false,[0]⟩,⟨3,1,false,[]⟩,⟨4,1,false,[]⟩] [0,0,2,7,15] ?_
  simp only [↓EJ,FY,simprocAttr,XS]
  refine Ad hx ((H m (by omega)).product r2 i2 (by omega)) (by simp only [CL,PCL,and_self]) Au rfl rfl fun c r3 i3 q3 h3 hx=>?_
  simp only [↓EJ,FY,simprocAttr,XS]
  refine CallX.mk (CallW.pure (Fh 12 a c) (by simp only [CL,PCL,and_self]) (by simp only [CL,PCL,and_self]) ?_)
  simp only [↓EJ,FY,simprocAttr,XS]
  try simp only [EQ,simprocAttr]
  refine ⟨(m + 1,exN 12 [a,c],r3),[0,1],⟨by dsimp only;omega,i3,by dsimp only;omega,hx⟩,by dsimp only;omega,?_⟩
  exact Conv.all (by simp only [EC,simprocAttr,PRN,XS,Ap])
 cases h
 dsimp only at hx
 refine WC.rs fun K hK=>?_
 simp only [↓EJ,FY,simprocAttr]
 refine CallX.tk hx i2 rfl rfl fun b3 r3 i3 q3 hx t3=>?_
 simp only [↓EJ,FY,simprocAttr]
 refine hK _ (Aa [0,2,3,7,14] ?_);clear hK K
 refine WC.cond rfl (fun h=>?_) fun h=>?_
 ·cases h
  have y3:=(t3 rfl).2.2
  dsimp only at hx
  rw [Oq] at hx
  refine Dn [⟨0,0,true,[]⟩,⟨1,0,false,[]⟩,⟨2,1,false,[0]⟩,⟨3,1,false,[]⟩,⟨4,1,false,[]⟩] [0,0,2,7,15] ?_
  simp only [↓EJ,FY,simprocAttr,XS]
  refine Ad hx ((H m (by omega)).product r3 i3 (by omega)) (by simp only [CL,PCL,and_self]) Au rfl rfl fun c r4 i4 q4 h4 hx=>?_
  simp only [↓EJ,FY,simprocAttr,XS]
  refine CallX.mk (CallW.pure (Fh 13 a c) (by simp only [CL,PCL,and_self]) (by simp only [CL,PCL,and_self]) ?_)
  simp only [↓EJ,FY,simprocAttr,XS]
  try simp only [EQ,simprocAttr]
  refine ⟨(m + 1,exN 13 [a,c],r4),[0,1],⟨by dsimp only;omega,i4,by dsimp only;omega,hx⟩,by dsimp only;omega,?_⟩
  exact Conv.all (by simp only [EC,simprocAttr,PRN,XS,Ap])
 cases h
 dsimp only at hx
 refine WC.rs fun K hK=>?_
 simp only [↓EJ,FY,simprocAttr,XS]
 refine hK _ ?_;clear hK K
 refine WC.ret ?_
 simp only [↓EJ,FY,simprocAttr,EQ,EF,Tryz.results212,XS]
 exact RSem.done (hx a r3 (RelV.ok i3)) rfl (of_eq_true (by simp only [CL,PCL,and_self])) rfl
theorem rcmp_step (ts:List Tok) (n:Nat) (H:RAll ts n) (r1:RS) (i1:PInv ts r1.s) (hn:40 * rem ts r1.s + 22≤n + 1):RSem 204 [] ts r1 (Km ts (n + 1) r1.s) exV:=by
 have hx:=cy0 (ts:=ts) (r:=r1) (x:=Km ts (n + 1) r1.s)
 replace hx:=hx.to fun _=>(by rw [Km])
 unfold RSem
 refine FSem.en 54 Tryz.func204 ?_
 simp only [Aj]
 refine WC.go ?_
 refine WC.rs fun K hK=>?_
 simp only [↓EJ,FY,simprocAttr]
 refine Ad hx (H.sum r1 i1 (by omega)) (by simp only [CL,PCL,and_self]) Au rfl rfl fun a r2 i2 q2 h2 hx=>?_
 simp only [↓EJ,FY,simprocAttr,XS]
 refine hK _ ?_;clear hK K
 refine WC.bs fun K0 hK0=>?_
 refine WC.rs fun K hK=>?_
 simp only [↓EJ,FY,simprocAttr]
 refine CallX.tk hx i2 rfl rfl fun b3 r3 i3 q3 hx t3=>?_
 simp only [↓EJ,FY,simprocAttr]
 refine hK _ ?_;clear hK K
 refine WC.cond rfl (fun h=>?_) fun h=>?_
 ·cases h
  have y3:=(t3 rfl).2.2
  dsimp only at hx
  refine WC.dg [⟨0,0,true,[]⟩,⟨1,0,false,[]⟩,⟨2,1,false,[0]⟩,⟨3,1,false,[]⟩,⟨4,1,false,[]⟩] [0,0,2,7,15] fun K hK=>?_
  simp only [↓EJ,FY,simprocAttr,XS]
  refine Ad hx (H.sum r3 i3 (by omega)) (by simp only [CL,PCL,and_self]) Au rfl rfl fun c r4 i4 q4 h4 hx=>?_
  simp only [↓EJ,FY,simprocAttr,XS]
  refine CallX.mk (CallW.pure (Fh 8 a c) (by simp only [CL,PCL,and_self]) (by simp only [CL,PCL,and_self]) ?_)
  simp only [↓EJ,FY,simprocAttr,XS]
  refine hK _ (Aa [0,2,3,4,5,15,23,30,37,45] ?_);clear hK K
  refine WC.ret ?_
  simp only [↓EJ,FY,simprocAttr,EQ,EF,Tryz.results204,XS]
  exact RSem.done (hx (exN 8 [a,c]) r4 (RelV.ok i4)) rfl (of_eq_true (by simp only [CL,PCL,and_self])) rfl
 cases h
 dsimp only at hx
 refine WC.rs fun K hK=>?_
 simp only [↓EJ,FY,simprocAttr]
 refine CallX.tk hx i3 rfl rfl fun b4 r4 i4 q4 hx t4=>?_
 simp only [↓EJ,FY,simprocAttr]
 refine hK _ ?_;clear hK K
 refine WC.cond rfl (fun h=>?_) fun h=>?_
 ·cases h
  have y4:=(t4 rfl).2.2
  dsimp only at hx
  refine WC.dg [⟨0,0,true,[]⟩,⟨1,0,false,[]⟩,⟨2,1,false,[0]⟩,⟨3,1,false,[]⟩,⟨4,1,false,[]⟩,⟨5,1,false,[]⟩] [0,0,2,7,15,31] fun K hK=>?_
  simp only [↓EJ,FY,simprocAttr,XS]
  refine Ad hx (H.sum r4 i4 (by omega)) (by simp only [CL,PCL,and_self]) Au rfl rfl fun c r5 i5 q5 h5 hx=>?_
  simp only [↓EJ,FY,simprocAttr,XS]
  refine CallX.mk (CallW.pure (Fh 8 a c) (by simp only [CL,PCL,and_self]) (by simp only [CL,PCL,and_self]) ?_)
  simp only [↓EJ,FY,simprocAttr,XS]
  refine CallX.mk (CallW.pure (Qe 5 (exN 8 [a,c])) (by simp only [CL,PCL,and_self]) (by simp only [CL,PCL,and_self]) ?_)
  simp only [↓EJ,FY,simprocAttr,XS]
  refine hK _ (Aa [0,2,3,4,5,23,30,37,45] ?_);clear hK K
  refine WC.ret ?_
  simp only [↓EJ,FY,simprocAttr,EQ,EF,Tryz.results204,XS]
  exact RSem.done (hx (exN 5 [(exN 8 [a,c])]) r5 (RelV.ok i5)) rfl (of_eq_true (by simp only [CL,PCL,and_self])) rfl
 cases h
 dsimp only at hx
 refine WC.rs fun K hK=>?_
 simp only [↓EJ,FY,simprocAttr]
 refine CallX.tk hx i4 rfl rfl fun b5 r5 i5 q5 hx t5=>?_
 simp only [↓EJ,FY,simprocAttr]
 refine hK _ ?_;clear hK K
 refine WC.cond rfl (fun h=>?_) fun h=>?_
 ·cases h
  have y5:=(t5 rfl).2.2
  dsimp only at hx
  refine WC.dg [⟨0,0,true,[]⟩,⟨1,0,false,[]⟩,⟨2,1,false,[0]⟩,⟨3,1,false,[]⟩,⟨4,1,false,[]⟩] [0,0,2,7,15] fun K hK=>?_
  simp only [↓EJ,FY,simprocAttr,XS]
  refine Ad hx (H.sum r5 i5 (by omega)) (by simp only [CL,PCL,and_self]) Au rfl rfl fun c r6 i6 q6 h6 hx=>?_
  simp only [↓EJ,FY,simprocAttr,XS]
  refine CallX.mk (CallW.pure (Fh 9 a c) (by simp only [CL,PCL,and_self]) (by simp only [CL,PCL,and_self]) ?_)
  simp only [↓EJ,FY,simprocAttr,XS]
  refine hK _ (Aa [0,2,3,4,5,30,37,45] ?_);clear hK K
  refine WC.ret ?_
  simp only [↓EJ,FY,simprocAttr,EQ,EF,Tryz.results204,XS]
  exact RSem.done (hx (exN 9 [a,c]) r6 (RelV.ok i6)) rfl (of_eq_true (by simp only [CL,PCL,and_self])) rfl
 cases h
 dsimp only at hx
 refine WC.rs fun K hK=>?_
 simp only [↓EJ,FY,simprocAttr]
 refine CallX.tk hx i5 rfl rfl fun b6 r6 i6 q6 hx t6=>?_
 simp only [↓EJ,FY,simprocAttr]
 refine hK _ ?_;clear hK K
 refine WC.cond rfl (fun h=>?_) fun h=>?_
 ·cases h
  have y6:=(t6 rfl).2.2
  dsimp only at hx
  refine WC.dg [⟨0,0,true,[]⟩,⟨1,0,false,[]⟩,⟨2,1,false,[0]⟩,⟨3,1,false,[]⟩,⟨4,1,false,[]⟩] [0,0,2,7,15] fun K hK=>?_
  simp only [↓EJ,FY,simprocAttr,XS]
  refine Ad hx (H.sum r6 i6 (by omega)) (by simp only [CL,PCL,and_self]) Au rfl rfl fun c r7 i7 q7 h7 hx=>?_
  simp only [↓EJ,FY,simprocAttr,XS]
  refine CallX.mk (CallW.pure (Fh 10 a c) (by simp only [CL,PCL,and_self]) (by simp only [CL,PCL,and_self]) ?_)
  simp only [↓EJ,FY,simprocAttr,XS]
  refine hK _ (Aa [0,2,3,4,5,37,45] ?_);clear hK K
  refine WC.ret ?_
  simp only [↓EJ,FY,simprocAttr,EQ,EF,Tryz.results204,XS]
  exact RSem.done (hx (exN 10 [a,c]) r7 (RelV.ok i7)) rfl (of_eq_true (by simp only [CL,PCL,and_self])) rfl
 cases h
 dsimp only at hx
 refine WC.rs fun K hK=>?_
 simp only [↓EJ,FY,simprocAttr]
 refine CallX.tk hx i6 rfl rfl fun b7 r7 i7 q7 hx t7=>?_
 simp only [↓EJ,FY,simprocAttr]
 refine hK _ ?_;clear hK K
 refine WC.cond rfl (fun h=>?_) fun h=>?_
 ·cases h
  have y7:=(t7 rfl).2.2
  dsimp only at hx
  refine WC.rs fun K hK=>?_
  simp only [↓EJ,FY,simprocAttr]
  refine Ad hx (H.sum r7 i7 (by omega)) (by simp only [CL,PCL,and_self]) Au rfl rfl fun c r8 i8 q8 h8 hx=>?_
  simp only [↓EJ,FY,simprocAttr,XS]
  refine hK _ ?_;clear hK K
  refine WC.rs fun K hK=>?_
  simp only [↓EJ,FY,simprocAttr,XS]
  refine CallX.mk (CallW.pure (Fh 9 c a) (by simp only [CL,PCL,and_self]) (by simp only [CL,PCL,and_self]) ?_)
  simp only [↓EJ,FY,simprocAttr,XS]
  refine hK _ (Aa [0,2,3,5,45] ?_);clear hK K
  refine WC.ret ?_
  simp only [↓EJ,FY,simprocAttr,EQ,EF,Tryz.results204,XS]
  exact RSem.done (hx (exN 9 [c,a]) r8 (RelV.ok i8)) rfl (of_eq_true (by simp only [CL,PCL,and_self])) rfl
 cases h
 dsimp only at hx
 refine WC.rs fun K hK=>?_
 simp only [↓EJ,FY,simprocAttr]
 refine CallX.tk hx i7 rfl rfl fun b8 r8 i8 q8 hx t8=>?_
 simp only [↓EJ,FY,simprocAttr]
 refine hK _ ?_;clear hK K
 refine WC.cond rfl (fun h=>?_) fun h=>?_
 ·cases h
  have y8:=(t8 rfl).2.2
  dsimp only at hx
  refine WC.rs fun K hK=>?_
  simp only [↓EJ,FY,simprocAttr]
  refine Ad hx (H.sum r8 i8 (by omega)) (by simp only [CL,PCL,and_self]) Au rfl rfl fun c r9 i9 q9 h9 hx=>?_
  simp only [↓EJ,FY,simprocAttr,XS]
  refine hK _ ?_;clear hK K
  refine WC.rs fun K hK=>?_
  simp only [↓EJ,FY,simprocAttr,XS]
  refine CallX.mk (CallW.pure (Fh 10 c a) (by simp only [CL,PCL,and_self]) (by simp only [CL,PCL,and_self]) ?_)
  simp only [↓EJ,FY,simprocAttr,XS]
  refine hK _ (Aa [2,3] ?_);clear hK K
  refine WC.ret ?_
  simp only [↓EJ,FY,simprocAttr,EQ,EF,Tryz.results204,XS]
  exact RSem.done (hx (exN 10 [c,a]) r9 (RelV.ok i9)) rfl (of_eq_true (by simp only [CL,PCL,and_self])) rfl
 cases h
 dsimp only at hx
 refine WC.skip (hK0 _ ?_)
 refine WC.rs fun K hK=>?_
 simp only [↓EJ,FY,simprocAttr,XS]
 refine hK _ ?_;clear hK K
 refine WC.ret ?_
 simp only [↓EJ,FY,simprocAttr,EQ,EF,Tryz.results204,XS]
 exact RSem.done (hx a r8 (RelV.ok i8)) rfl (of_eq_true (by simp only [CL,PCL,and_self])) rfl
theorem Yl (ts:List Tok) (n:Nat) (H:∀ m,m≤n→RAll ts m) (r1:RS) (i1:PInv ts r1.s) (hn:40 * rem ts r1.s + 36≤n + 1):RSem 178 [] ts r1 (Ed ts (n + 1) r1.s) Dv:=by
 have hx:=cy0 (ts:=ts) (r:=r1) (x:=Ed ts (n + 1) r1.s)
 replace hx:=hx.to fun _=>(by rw [Ed])
 have hp:=Ez i1
 have hp2:=J0 i1
 unfold RSem
 refine FSem.en 15 Tryz.func178 ?_
 simp only [Aj]
 refine WC.go ?_
 refine WC.rs fun K hK=>?_
 simp only [↓EJ,FY,simprocAttr]
 refine Ad hx ((H n (Nat.le_refl n)).expr r1 i1 (by omega)) (by simp only [CL,PCL,and_self]) Au rfl rfl fun a r2 i2 q2 h2 hx=>?_
 simp only [↓EJ,FY,simprocAttr,XS]
 refine hK _ ?_;clear hK K
 refine WC.bs fun K0 hK0=>?_
 refine WC.loop (X:=Nat × List Ex × RS) (fun x=>⟨[(3,.ref (.l 0) 0 x.2.1.length),(0,.ptr (.o 0) 0 0)],[Bj ts x.2.2],[.row (x.2.1.map exV) 7 53],[]⟩) (fun y=>y.1≤n∧PInv ts y.2.2.s∧40 * rem ts y.2.2.s + 1≤y.1∧y.2.1≠[]∧y.2.1.length + rem ts y.2.2.s≤10001∧Cy ts (Ki ts y.1 y.2.1 y.2.2.s) y.2.2 (RelV ts (Ed ts (n + 1) r1.s) r1)) (fun x=>x.1) (n,[a],r2) [0] ⟨Nat.le_refl _,i2,by dsimp only;omega,by simp,by simp only [List.length_cons,List.length_nil];omega,hx⟩ ?_ ?_
 ·exact Conv.all (by simp only [EC,simprocAttr,PRN,XS,Ap,List.map_cons,List.map_nil,List.length_cons,List.length_nil])
 clear hx q2 h2 i2 r2 a hp
 rintro ⟨m,acc,r1⟩ ⟨hm,i1,hr,hne,hlen,hx⟩
 dsimp only at hm i1 hr hne hlen hx ⊢
 have hp:=Ez i1
 obtain ⟨m,rfl⟩:∃ k,m=k + 1:=⟨m - 1,by omega⟩
 replace hx:=hx.to fun _=>(by rw [Ki])
 refine Am fun K3 hK3=>?_
 refine WC.rs fun K hK=>?_
 simp only [↓EJ,FY,simprocAttr]
 refine CallX.tk hx i1 rfl rfl fun b2 r2 i2 q2 hx t2=>?_
 simp only [↓EJ,FY,simprocAttr]
 refine hK _ ?_;clear hK K
 refine WC.cond rfl (fun h=>?_) fun h=>?_
 ·cases h
  have y2:=(t2 rfl).2.2
  dsimp only at hx
  refine WC.skip (hK3 _ ?_)
  refine WC.b1 ?_
  refine F9 [3] ?_
  simp only [↓EJ,FY,simprocAttr,EZ]
  refine Ad hx ((H m (by omega)).expr r2 i2 (by omega)) (by simp only [CL,PCL,and_self]) Au rfl rfl fun e r3 i3 q3 h3 hx=>?_
  simp only [↓EJ,FY,simprocAttr,EZ,XS]
  refine ⟨by rw [List.length_map],by omega,by omega,?_⟩
  try simp only [EQ,simprocAttr]
  refine ⟨(m,acc ++ [e],r3),[1],⟨by dsimp only;omega,i3,by dsimp only;omega,by simp,by simp only [List.length_append,List.length_cons,List.length_nil];omega,hx⟩,by dsimp only;omega,?_⟩
  exact Conv.all (by simp only [EC,simprocAttr,PRN,XS,Ap,Aw,List.map_append,List.map_cons,List.map_nil,List.length_append,List.length_cons,List.length_nil])
 ·cases h
  dsimp only at hx
  refine WC.exit (hK0 _ ?_)
  refine WC.frz 3 0 rfl rfl (by simp) ?_
  refine WC.go (Aa [0,2,3] ?_)
  refine WC.ret ?_
  simp only [↓EJ,FY,simprocAttr,EQ,EF,Tryz.results178]
  have hp:PVal.slc (List.take acc.length (List.map exV acc))=Dv acc:=by rw [E1 hne,List.take_of_length_le (by simp)]
  rw [hp]
  exact RSem.done (hx acc r2 (RelV.ok i2)) rfl (of_eq_true (by simp only [CL,PCL,and_self])) rfl
end Go.LexSem
-- TIGHT
set_option maxHeartbeats 4000000
set_option maxRecDepth 8000
namespace Go.LexSem
open Go Go.V Go.Proofs Go.Num

theorem isDigs {s:List UInt8} (hd:∀ c∈s,A9 (c.toNat:Int)=true) (i:Nat) (h:i < s.length):48≤s[i].toNat∧s[i].toNat≤57:=by
 have:=hd s[i] (List.getElem_mem h)
 simp [A9] at this
 omega
theorem S2 (s:List UInt8) (hl:s.length≤60) (hd:∀ c∈s,A9 (c.toNat:Int)=true):FSem C 176 [.str s] [] fun r st=>r=.ret (.int .i64 ((min (dec s) 1000001:Nat):Int))∧st=[]:=by
 refine FSem.en 21 Tryz.func176 ?_
 simp only [Aj]
 refine WC.go ?_
 refine WC.go ?_
 refine Am fun K0 hK0=>?_
 refine WC.go ?_
 refine WC.b1 ?_
 refine WC.loop (X:=Nat) (fun i=>⟨[(4,.int .i64 i),(3,.int .i64 ((min (dec (s.take i)) 1000001:Nat):Int)),(0,.str s)],[],[],[]⟩) (fun i=>i≤s.length) (fun i=>s.length - i) 0 [] (Nat.zero_le _) ?_ ?_
 ·have e0:((min (dec []) 1000001:Nat):Int)=0:=by decide
  exact Conv.all (by simp only [EC,simprocAttr,List.take_zero,e0])
 ·rintro i hi
  refine Am fun K3 hK3=>?_
  refine WC.go ?_
  refine WC.cond rfl (fun h=>?_) fun h=>?_
  ·have hlt:i < s.length:=by simpa using h
   have hts:=M3 (s.take i) s[i]
   rw [←List.take_succ_eq_append_getElem hlt] at hts
   have hgb:gb s i=((s[i].toNat:Nat):Int):=by simp [gb,List.getD_eq_getElem?_getD,hlt]
   obtain ⟨d1,d2⟩:=isDigs hd i hlt
   generalize s[i].toNat=c at *
   generalize dec (s.take i)=v at *
   have hw1:IntKind.wrap .u8 ((c:Int) - 48)=((c - 48:Nat):Int):=by rw [IntKind.wrap_u8];omega
   have hw2:=w64 (x:=((c - 48:Nat):Int)) (by omega) (by omega)
   have hw3:=w64 (x:=((min v 1000001:Nat):Int) * 10) (by omega) (by omega)
   have hw4:=w64 (x:=((min v 1000001:Nat):Int) * 10 + ((c - 48:Nat):Int)) (by omega) (by omega)
   have hm:mn (((min v 1000001:Nat):Int) * 10 + ((c - 48:Nat):Int)) 1000001=((min (v * 10 + (c - 48)) 1000001:Nat):Int):=by unfold mn;split <;> omega
   refine WC.skip (hK3 _ ?_)
   refine WC.bs fun K4 hK4=>?_
   refine WC.r1 ?_
   simp only [↓EJ,FY,simprocAttr,hgb,hw1,hw2,hw3,hw4,hm,wB_min,Int.toNat_natCast]
   repeat refine And.intro (by omega) ?_
   try simp only [EQ,simprocAttr]
   refine hK4 _ ?_
   refine WC.r1 ?_
   simp (disch:=omega) only [↓EJ,FY,simprocAttr,w64,Bh]
   try simp only [EQ,simprocAttr]
   refine ⟨i + 1,[],by omega,by omega,?_⟩
   rw [hts]
   exact Conv.all (by simp only [EC,simprocAttr,Int.natCast_add])
  ·have he:i=s.length:=by simp at h;omega
   subst he
   refine WC.exit (hK0 _ ?_)
   refine WC.go ?_
   refine WC.ret ?_
   simp only [↓EJ,FY,simprocAttr,EQ,EF,Tryz.results176]
   exact Dt (by simp only [CL]) (by rw [List.take_length])
theorem C8 (ts:List Tok) (r1:RS) (i1:PInv ts r1.s):RSem 151 [] ts r1 (Bu ts r1.s) (fun n=>.int .i64 (n:Int)):=by
 have hx:Cy ts (Bu ts r1.s) r1 (RelV ts (Bu ts r1.s) r1):=fun _ _ h=>h
 have hlt:=i1.lt
 have hle:=i1.le
 unfold RSem
 refine FSem.en 33 Tryz.func151 ?_
 simp only [Aj]
 refine WC.go ?_
 refine Am fun K1 hK1=>?_
 refine WC.rs fun K hK=>?_
 simp only [↓EJ,FY,simprocAttr]
 refine CallX.kd i1 2 rfl rfl fun b hb=>?_
 simp only [↓EJ,FY,simprocAttr]
 refine hK _ ?_;clear hK K
 refine WC.cond rfl (fun h=>?_) fun h=>?_
 ·refine WC.rs fun K hK=>?_
  simp only [↓EJ,FY,simprocAttr]
  refine CallX.fl i1 4 (by decide) rfl rfl fun r3 i3 q3 n3 h3=>?_
  simp only [↓EJ,FY,simprocAttr]
  refine hK _ ?_;clear hK K
  refine WC.go ?_
  refine WC.ret ?_
  simp only [↓EJ,FY,simprocAttr,EQ,EF,Tryz.results151]
  have hk:r1.e=0→Bu ts r1.s=.error (Gr (cur ts r1.s) 4):=fun he=>by rw [Bu,if_pos (hb.2 (by simpa using h) he)]
  exact RSem.done (hx.to hk 0 r3 (h3 _ 0)) rfl (fun _=>rfl) rfl
 refine WC.skip (hK1 _ ?_)
 obtain ⟨he,hk⟩:=hb.1 (by simpa using h)
 obtain ⟨n0,n60,nd⟩:=i1.num _ (I7 i1) hk
 have hsm:=S2 _ n60 nd
 have i2:=i1.go (o:=r1.s.opn) (by omega) (by omega) (by omega)
 have hg:=If i1.lt
 have hcur:ts.getD r1.s.at_ (5,[],1,1)=cur ts r1.s:=rfl
 rw [hcur] at hg
 refine WC.dg [⟨0,0,false,[]⟩,⟨1,0,false,[]⟩,⟨2,0,false,[]⟩,⟨3,0,false,[]⟩,⟨4,0,false,[]⟩,⟨5,0,false,[]⟩,⟨6,0,false,[]⟩,⟨7,0,false,[]⟩,⟨8,0,false,[]⟩,⟨9,0,false,[]⟩,⟨10,0,false,[]⟩,⟨11,1,false,[]⟩,⟨12,0,false,[]⟩] [0,1,3,7,0,16,48,112,255,511,1023,2047,4095] fun K hK=>?_
 simp only [↓EJ,FY,simprocAttr,Bj,tks,List.length_map,Int.toNat_natCast,hg,Bn]
 repeat refine And.intro (by omega) ?_
 refine Bg hsm ?_
 simp only [↓EJ,FY,simprocAttr]
 refine hK _ (Aa [0,2,3,22] ?_);clear hK K
 refine Am fun K2 hK2=>?_
 refine WC.go ?_
 refine WC.cond rfl (fun h=>?_) fun h=>?_
 ·have hgt:1000000 < dec (cur ts r1.s).2.1:=by simp at h;omega
  refine WC.rs fun K hK=>?_
  simp only [↓EJ,FY,simprocAttr]
  refine CallX.fl i1 9 (by decide) rfl rfl fun r3 i3 q3 n3 h3=>?_
  simp only [↓EJ,FY,simprocAttr]
  refine hK _ ?_;clear hK K
  refine WC.go ?_
  refine WC.ret ?_
  simp only [↓EJ,FY,simprocAttr,EQ,EF,Tryz.results151]
  have hk:r1.e=0→Bu ts r1.s=.error (Gr (cur ts r1.s) 9):=fun he=>by rw [Bu,if_neg (by omega),if_pos hgt]
  exact RSem.done (hx.to hk 0 r3 (h3 _ 0)) rfl (fun _=>rfl) rfl
 have hgt:¬ 1000000 < dec (cur ts r1.s).2.1:=by simp at h;omega
 refine WC.skip (hK2 _ ?_)
 refine WC.rs fun K hK=>?_
 simp (disch:=omega) only [↓EJ,FY,simprocAttr,w64,Bh,Bj]
 refine hK _ (Aa [2,3] ?_);clear hK K
 refine WC.go ?_
 refine WC.ret ?_
 simp only [↓EJ,FY,simprocAttr,EQ,EF,Tryz.results151]
 have hn:r1.e=0→Bu ts r1.s=.ok (dec (cur ts r1.s).2.1,goS r1.s):=fun _=>by rw [Bu,if_neg (by omega),if_neg hgt];rfl
 refine RSem.done (r1:=⟨goS r1.s,0⟩) (hx.to hn _ _ ⟨i2,Nat.le_succ _,fun h=>absurd he h,fun _=>⟨rfl,rfl⟩⟩) ?_ (fun _=>rfl) ?_
 ·rw [Nat.min_eq_left (by omega)]
 ·simp only [Bj,tks,goS,Int.natCast_add,he];rfl
theorem RelV.okv {α:Type} {ts:List Tok} {x:PR α} {r r':RS} {v:α} (h:RelV ts x r v r') (e:r'.e=0):x=.ok (v,r'.s):=by
 have he:r.e=0:=Classical.byContradiction fun hd=>by rw [h.dead hd] at e;exact hd e
 have ho:=h.out he
 match x,ho with
 | .ok (a,s),ho=>obtain ⟨rfl,rfl⟩:=ho;rfl
 | .error q,ho=>exact absurd e ho.2
theorem Xc (ts:List Tok) (s:PS):Cj ts s=bnd (Ak ts [45] s) fun b s=>match b with
  | true=>bnd (Bu ts s) fun n s=>.ok (-(n:Int),s)
  | false=>bnd (Bu ts s) fun n s=>.ok ((n:Int),s):=by
 unfold Cj bnd
 rcases Ak ts [45] s with e | ⟨b,s⟩
 ·rfl
 ·cases b <;> dsimp only <;> rcases Bu ts s with e | ⟨n,s⟩ <;> rfl
theorem Gf (ts:List Tok) (r1:RS) (i1:PInv ts r1.s):RSem 174 [] ts r1 (Cj ts r1.s) (fun k=>.int .i64 k):=by
 have hx:=(cy0 (ts:=ts) (r:=r1) (x:=Cj ts r1.s)).to fun _=>Xc ts r1.s
 unfold RSem
 refine FSem.en 10 Tryz.func174 ?_
 simp only [Aj]
 refine WC.go ?_
 refine Am fun K1 hK1=>?_
 refine WC.rs fun K hK=>?_
 simp only [↓EJ,FY,simprocAttr]
 refine CallX.tk hx i1 rfl rfl fun b2 r2 i2 q2 hx t2=>?_
 simp only [↓EJ,FY,simprocAttr]
 refine hK _ ?_;clear hK K
 refine WC.cond rfl (fun h=>?_) fun h=>?_
 ·cases h
  dsimp only at hx
  refine WC.rs fun K hK=>?_
  simp only [↓EJ,FY,simprocAttr]
  refine Ad hx (C8 ts r2 i2) (by simp only [CL,PCL,and_self]) (fun _ _=>rfl) rfl rfl fun n r3 i3 q3 h3 hx=>?_
  simp only [↓EJ,FY,simprocAttr]
  refine hK _ ?_;clear hK K
  refine WC.ret ?_
  simp only [↓EJ,FY,simprocAttr,EQ,EF,Tryz.results174]
  have hw:r3.e=0→(Except.ok (-(n:Int),r3.s):PR Int)=.ok (IntKind.wrap .i64 (0 - (n:Int)),r3.s):=fun he=>by
   have:=(I3 i2 (h3.okv he)).2.2
   rw [w64 (by omega) (by omega),Int.zero_sub]
  replace hx:=hx.to hw
  exact RSem.done (hx (IntKind.wrap .i64 (0 - (n:Int))) r3 (RelV.ok i3)) rfl (of_eq_true (by simp only [CL,PCL,and_self])) rfl
 cases h
 dsimp only at hx
 refine WC.skip (hK1 _ ?_)
 refine WC.rs fun K hK=>?_
 simp only [↓EJ,FY,simprocAttr]
 refine Ad hx (C8 ts r2 i2) (by simp only [CL,PCL,and_self]) (fun _ _=>rfl) rfl rfl fun n r3 i3 q3 h3 hx=>?_
 simp only [↓EJ,FY,simprocAttr]
 refine hK _ (Aa [2] ?_);clear hK K
 refine WC.ret ?_
 simp only [↓EJ,FY,simprocAttr,EQ,EF,Tryz.results174]
 exact RSem.done (hx (n:Int) r3 (RelV.ok i3)) rfl (of_eq_true (by simp only [CL,PCL,and_self])) rfl
end Go.LexSem
-- TIGHT
set_option maxHeartbeats 8000000
set_option maxRecDepth 8000
namespace Go.LexSem
open Go Go.V Go.Proofs Go.Num

theorem Bk {ts:List Tok} {s:PS} {t:List UInt8} (h:isP ts s t=false):Ak ts t s=.ok (false,s):=by rw [Ak,if_pos h]
theorem Fa {ts:List Tok} {s:PS} {a b:List UInt8} (h:isP ts s a=true) (hab:a≠b):isP ts s b=false:=by
 simp only [isP,Bool.and_eq_true,decide_eq_true_eq] at h
 simp only [isP,h.2,hab,decide_false,Bool.and_false]
theorem isP_k {ts:List Tok} {s:PS} {a:List UInt8} (h:isP ts s a=true):(cur ts s).1=3∨(cur ts s).1=4:=by
 simp [isP] at h;exact h.1
theorem Y8 {ts:List Tok} {s:PS} {a:List UInt8} (h3:(cur ts s).1≠3) (h4:(cur ts s).1≠4):isP ts s a=false:=by
 simp [isP,h3,h4]
theorem N0 (ts:List Tok) (t:List UInt8) (s:PS):Ah ts [t] s=bnd (Ak ts t s) fun b s=>match b with
  | true=>.ok ((),s)
  | false=>.error (Gr (cur ts s) 4):=by
 unfold Ah bnd
 rcases Ak ts t s with e | ⟨b,s⟩
 ·rfl
 ·cases b <;> rfl
/-- The smallest expressions, in the reference's order. -/
def primR (ts:List Tok) (n:Nat) (s:PS):PR Ex :=
 bnd (Ak ts [116,114,117,101] s) fun b s=>match b with
 | true=>.ok (.mk 1 1 zr [] [],s)
 | false=>bnd (Ak ts [102,97,108,115,101] s) fun b s=>match b with
   | true=>.ok (.mk 1 0 zr [] [],s)
   | false=>if (cur ts s).1=1 then bnd (C2 ts s) fun x s1=>.ok (.mk 4 0 zr x [],s1) else
     if (cur ts s).1=2 then (if Gx (nxt ts s)=true then bnd (Dm ts s) fun q s=>.ok (.mk 3 0 q [] [],s) else bnd (Bu ts s) fun k s2=>.ok (.mk 2 k zr [] [],s2)) else
     bnd (Ak ts [40] s) fun b s=>match b with
     | true=>bnd (Ed ts n s) fun l s3=>bnd (Ah ts [[41]] s3) fun _ s4=>.ok (match l with
       | [e]=>e
       | _=>exN 16 l,s4)
     | false=>bnd (Ak ts [91] s) fun b s1=>match b with
       | true=>match isP ts s1 [93] with
         | true=>bnd (Ah ts [[93]] s1) fun _ s2=>.ok (exN 18 [],s2)
         | false=>bnd (Ed ts n s1) fun l s2=>bnd (Ah ts [[93]] s2) fun _ s3=>.ok (exN 18 l,s3)
       | false=>bnd (Ak ts [108,101,110] s1) fun b s1=>match b with
         | true=>bnd (Ah ts [[40]] s1) fun _ s2=>bnd (Eg ts n s2) fun e s3=>bnd (Ah ts [[41]] s3) fun _ s4=>.ok (exN 20 [e],s4)
         | false=>bnd (Ak ts [112,117,115,104] s1) fun b s1=>match b with
           | true=>bnd (Ah ts [[40]] s1) fun _ s2=>bnd (Eg ts n s2) fun l s3=>bnd (Ah ts [[44]] s3) fun _ s4=>bnd (Eg ts n s4) fun e s5=>bnd (Ah ts [[41]] s5) fun _ s6=>.ok (exN 19 [l,e],s6)
           | false=>.error (Gr (cur ts s1) 4)
theorem frac_div {ts:List Tok} {s:PS} (i:PInv ts s) (hk:(cur ts s).1=2) (hd:Gx (nxt ts s)=true):Dm ts s=bnd (Gs ts (goS (goS s))) fun d s2=>.ok (Hq false (dec (cur ts s).2.1) d,s2):=by
 have h4:(nxt ts s).1=4:=In hd
 obtain ⟨i2,hc2⟩:=Qf i (by rw [h4];decide)
 have hp:isP ts (goS s) [47]=true:=by
  unfold isP
  rw [hc2]
  simp [Gx] at hd
  simp [hd.1,hd.2]
 have ha:Ak ts [47] (goS s)=.ok (true,goS (goS s)):=by
  unfold Ak
  rw [if_neg (by simp [hp]),if_neg (by simp [Cz])]
  rfl
 unfold Dm
 rw [Bk (Y8 (by omega) (by omega))]
 have hl:E9 ts s=.ok (dec (cur ts s).2.1,s):=by rw [E9,if_neg (by omega)]
 simp only [hl]
 rw [show (⟨s.at_ + 1,s.opn⟩:PS)=goS s from rfl,ha]
 simp only
 rcases Gs ts (goS (goS s)) with e | ⟨d,s'⟩ <;> rfl
theorem prim_eq {ts:List Tok} {s:PS} (i:PInv ts s) (n:Nat):C1 ts (n + 1) s=primR ts n s:=by
 rw [C1,primR]
 by_cases h1:(cur ts s).1=1
 ·have hf:∀ t,Ak ts t s=.ok (false,s):=fun t=>Bk (Y8 (by omega) (by omega))
  simp only [h1,hf,Ay,if_true]
 by_cases h2:(cur ts s).1=2
 ·have hf:∀ t,Ak ts t s=.ok (false,s):=fun t=>Bk (Y8 (by omega) (by omega))
  have hl:E9 ts s=.ok (dec (cur ts s).2.1,s):=by rw [E9,if_neg (by omega)]
  simp only [h2,hf,hl,Ay,if_true,show ¬ (2=1) by decide,if_false]
  cases hd:Gx (nxt ts s) with
  | false=>simp only [Bool.false_eq_true,if_false]
  | true=>simp only [if_true,frac_div i h2 hd,Ae,Ay]
 have hm:∀ (A:PR Ex) (B:PR Ex) (D:PR Ex),(match (cur ts s).1 with | 1=>A | 2=>B | _=>D)=D:=fun A B D=>by
  split
  ·contradiction
  ·contradiction
  ·rfl
 split
 ·contradiction
 ·contradiction
 cases p1:isP ts s [116,114,117,101] with
 | true =>
   have:Ak ts [116,114,117,101] s=.ok (true,goS s):=by rw [Ak,if_neg (by simp [p1]),if_neg (by simp [Cz])];rfl
   simp only [this,Ay]
 | false =>
 simp only [Bk p1,Ay]
 cases p2:isP ts s [102,97,108,115,101] with
 | true =>
   have:Ak ts [102,97,108,115,101] s=.ok (true,goS s):=by rw [Ak,if_neg (by simp [p2]),if_neg (by simp [Cz])];rfl
   simp only [this,Ay]
 | false =>
 simp only [Bk p2,Ay,h1,h2,if_false]
 cases p3:isP ts s [108,101,110] with
 | true => 
   have:Ak ts [108,101,110] s=.ok (true,goS s):=by rw [Ak,if_neg (by simp [p3]),if_neg (by simp [Cz])];rfl
   simp only [this,Bk (Fa p3 (b:=[40]) (by decide)),Bk (Fa p3 (b:=[91]) (by decide)),Ay]
 | false =>
 cases p4:isP ts s [112,117,115,104] with
 | true => 
   have:Ak ts [112,117,115,104] s=.ok (true,goS s):=by rw [Ak,if_neg (by simp [p4]),if_neg (by simp [Cz])];rfl
   simp only [this,Bk p3,Bk (Fa p4 (b:=[40]) (by decide)),Bk (Fa p4 (b:=[91]) (by decide)),Ay]
 | false =>
 simp only [Bk p3,Bk p4,Ay]
 cases p5:isP ts s [91] with
 | true =>
   simp only [Bk (Fa p5 (b:=[40]) (by decide)),Ay]
   by_cases ho:s.opn=10
   ·have:Ak ts [91] s=.error (Gr (cur ts s) 9):=by rw [Ak,if_neg (by simp [p5]),if_pos ⟨rfl,ho⟩]
    simp only [this,F8]
   ·have:Ak ts [91] s=.ok (true,⟨s.at_ + 1,Et [91] s.opn⟩):=by rw [Ak,if_neg (by simp [p5]),if_neg (by simp [ho])]
    simp only [this,Ay]
    rfl
 | false =>
 simp only [Bk p5,Ay,N0,Ae]
 cases p6:isP ts s [40] with
 | true =>
   by_cases ho:s.opn=10
   ·have:Ak ts [40] s=.error (Gr (cur ts s) 9):=by rw [Ak,if_neg (by simp [p6]),if_pos ⟨rfl,ho⟩]
    simp only [this,F8]
   ·have:Ak ts [40] s=.ok (true,⟨s.at_ + 1,Et [40] s.opn⟩):=by rw [Ak,if_neg (by simp [p6]),if_neg (by simp [ho])]
    simp only [this,Ay]
    rfl
 | false=>simp only [Bk p6,Bk p5,Bk p3,Bk p4,Ay,F8]
theorem Wm (ts:List Tok) (n:Nat) (H:∀ m,m≤n→RAll ts m) (r1:RS) (i1:PInv ts r1.s) (hn:40 * rem ts r1.s + 5≤n + 1):RSem 221 [] ts r1 (D0 ts (n + 1) r1.s) exV:=by
 have hx:=cy0 (ts:=ts) (r:=r1) (x:=D0 ts (n + 1) r1.s)
 replace hx:=hx.to fun _=>(by rw [D0])
 unfold RSem
 refine FSem.en 34 Tryz.func221 ?_
 simp only [Aj]
 refine WC.go ?_
 refine Am fun K1 hK1=>?_
 refine WC.rs fun K hK=>?_
 simp only [↓EJ,FY,simprocAttr]
 refine CallX.tk hx i1 rfl rfl fun b2 r2 i2 q2 hx t2=>?_
 simp only [↓EJ,FY,simprocAttr]
 refine hK _ ?_;clear hK K
 refine WC.cond rfl (fun h=>?_) fun h=>?_
 ·cases h
  have y2:=(t2 rfl).2.2
  dsimp only at hx
  refine WC.rs fun K hK=>?_
  simp only [↓EJ,FY,simprocAttr]
  refine Ad hx ((H n (by omega)).unary r2 i2 (by omega)) (by simp only [CL,PCL,and_self]) Au rfl rfl fun a r3 i3 q3 h3 hx=>?_
  simp only [↓EJ,FY,simprocAttr,XS]
  refine CallX.mk (CallW.pure (Qe 5 a) (by simp only [CL,PCL,and_self]) (by simp only [CL,PCL,and_self]) ?_)
  simp only [↓EJ,FY,simprocAttr,XS]
  refine hK _ ?_;clear hK K
  refine WC.ret ?_
  simp only [↓EJ,FY,simprocAttr,EQ,EF,Tryz.results221,XS]
  exact RSem.done (hx (exN 5 [a]) r3 (RelV.ok i3)) rfl (of_eq_true (by simp only [CL,PCL,and_self])) rfl
 cases h
 dsimp only at hx
 refine WC.skip (hK1 _ ?_)
 refine Am fun K1 hK1=>?_
 refine WC.rs fun K hK=>?_
 simp only [↓EJ,FY,simprocAttr]
 refine CallX.tk hx i2 rfl rfl fun b3 r3 i3 q3 hx t3=>?_
 simp only [↓EJ,FY,simprocAttr]
 refine hK _ (Aa [0,2,3,10,17,25] ?_);clear hK K
 refine WC.cond rfl (fun h=>?_) fun h=>?_
 ·cases h
  have y3:=(t3 rfl).2.2
  dsimp only at hx
  refine WC.rs fun K hK=>?_
  simp only [↓EJ,FY,simprocAttr]
  refine Ad hx ((H n (by omega)).unary r3 i3 (by omega)) (by simp only [CL,PCL,and_self]) Au rfl rfl fun a r4 i4 q4 h4 hx=>?_
  simp only [↓EJ,FY,simprocAttr,XS]
  refine CallX.mk (CallW.pure (Qe 11 a) (by simp only [CL,PCL,and_self]) (by simp only [CL,PCL,and_self]) ?_)
  simp only [↓EJ,FY,simprocAttr,XS]
  refine hK _ ?_;clear hK K
  refine WC.ret ?_
  simp only [↓EJ,FY,simprocAttr,EQ,EF,Tryz.results221,XS]
  exact RSem.done (hx (exN 11 [a]) r4 (RelV.ok i4)) rfl (of_eq_true (by simp only [CL,PCL,and_self])) rfl
 cases h
 dsimp only at hx
 refine WC.skip (hK1 _ ?_)
 refine WC.rs fun K hK=>?_
 simp only [↓EJ,FY,simprocAttr]
 refine Ad hx ((H n (by omega)).primary r3 i3 (by omega)) (by simp only [CL,PCL,and_self]) Au rfl rfl fun a r4 i4 q4 h4 hx=>?_
 simp only [↓EJ,FY,simprocAttr,XS]
 refine hK _ ?_;clear hK K
 refine WC.b1 ?_
 refine WC.loop (X:=Nat × Ex × RS) (fun x=>⟨[(3,.ptr (.l 1) 0 0),(2,.ptr (.l 0) 0 0),(0,.ptr (.o 0) 0 0)],[Bj ts x.2.2],[.row [.agg (exC (exN 0 []))] 7 53,.row [.agg (exC x.2.1)] 7 53],[]⟩) (fun y=>y.1≤n∧PInv ts y.2.2.s∧40 * rem ts y.2.2.s + 4≤y.1∧Cy ts (Jp ts y.1 y.2.1 y.2.2.s) y.2.2 (RelV ts (D0 ts (n + 1) r1.s) r1)) (fun x=>x.1) (n,a,r4) [0,1] ⟨Nat.le_refl _,i4,by dsimp only;omega,hx⟩ ?_ ?_
 ·exact Conv.all (by simp only [EC,simprocAttr,PRN,Xt,Ap])
 rintro ⟨m,a,r1⟩ ⟨hm,i1,hr,hx⟩
 dsimp only at hm i1 hr hx ⊢
 obtain ⟨m,rfl⟩:∃ k,m=k + 1:=⟨m - 1,by omega⟩
 replace hx:=hx.to fun _=>(by rw [Jp])
 refine WC.b1 ?_
 refine WC.b1 ?_
 refine WC.rs fun K hK=>?_
 simp only [↓EJ,FY,simprocAttr]
 refine CallX.tk hx i1 rfl rfl fun b2 r2 i2 q2 hx t2=>?_
 simp only [↓EJ,FY,simprocAttr]
 refine hK _ (Aa [0,2,3,17,25] ?_);clear hK K
 refine WC.cond rfl (fun h=>?_) fun h=>?_
 ·cases h
  have y2:=(t2 rfl).2.2
  dsimp only at hx
  refine Dn [⟨0,0,false,[]⟩,⟨2,0,true,[]⟩,⟨3,2,true,[]⟩,⟨1,1,false,[2,3]⟩,⟨4,0,false,[]⟩,⟨5,1,false,[]⟩] [0,1,0,4,15,31] ?_
  simp only [↓EJ,FY,simprocAttr,XS,EDz]
  refine Ad hx (C8 ts r2 i2) (by simp only [CL,PCL,and_self]) (fun _ _=>rfl) rfl rfl fun k r3 i3 q3 h3 hx=>?_
  simp only [↓EJ,FY,simprocAttr,XS]
  try simp only [EQ,simprocAttr]
  refine ⟨(m,.mk 17 k zr [] [a],r3),[0,1],⟨by dsimp only;omega,i3,by dsimp only;omega,hx⟩,by dsimp only;omega,?_⟩
  have hp:PVal.agg (exC (.mk 17 k zr [] [a]))=.agg [.int .i64 17,.int .i64 k,.bool false,.nils,.nils,.str [],.slc [.agg (exC a)]]:=Xj k a
  dsimp only
  rw [hp]
  exact Conv.all (by simp only [EC,simprocAttr,PRN,XS,Ap])
 cases h
 dsimp only at hx
 refine WC.rs fun K hK=>?_
 simp only [↓EJ,FY,simprocAttr]
 refine CallX.tk hx i2 rfl rfl fun b3 r3 i3 q3 hx t3=>?_
 simp only [↓EJ,FY,simprocAttr]
 refine hK _ ?_;clear hK K
 refine WC.cond rfl (fun h=>?_) fun h=>?_
 ·cases h
  have y3:=(t3 rfl).2.2
  dsimp only at hx
  refine WC.dg [⟨0,0,true,[]⟩,⟨1,0,false,[]⟩,⟨2,1,false,[0]⟩,⟨3,1,false,[]⟩,⟨4,1,false,[]⟩] [0,0,2,7,15] fun K hK=>?_
  simp only [↓EJ,FY,simprocAttr,XS]
  refine Ad hx ((H m (by omega)).expr r3 i3 (by omega)) (by simp only [CL,PCL,and_self]) Au rfl rfl fun c r4 i4 q4 h4 hx=>?_
  simp only [↓EJ,FY,simprocAttr,XS]
  refine CallX.mk (CallW.pure (Fh 21 a c) (by simp only [CL,PCL,and_self]) (by simp only [CL,PCL,and_self]) ?_)
  simp only [↓EJ,FY,simprocAttr,XS]
  refine hK _ (Aa [0,2,3,17,25] ?_);clear hK K
  refine WC.r1 ?_
  simp only [↓EJ,FY,simprocAttr]
  refine Ad hx (A0 ts r4 i4 [93]) (by simp only [CL,PCL,and_self]) (fun _ _=>rfl) rfl rfl fun u r5 i5 q5 h5 hx=>?_
  simp only [↓EJ,FY,simprocAttr]
  try simp only [EQ,simprocAttr]
  refine ⟨(m,exN 21 [a,c],r5),[0,1],⟨by dsimp only;omega,i5,by dsimp only;omega,hx⟩,by dsimp only;omega,?_⟩
  exact Conv.all (by simp only [EC,simprocAttr,PRN,XS,Ap])
 cases h
 dsimp only at hx
 refine WC.rs fun K hK=>?_
 simp only [↓EJ,FY,simprocAttr,XS]
 refine hK _ ?_;clear hK K
 refine WC.ret ?_
 simp only [↓EJ,FY,simprocAttr,EQ,EF,Tryz.results221,XS]
 exact RSem.done (hx a r3 (RelV.ok i3)) rfl (of_eq_true (by simp only [CL,PCL,and_self])) rfl
end Go.LexSem
-- TIGHT
set_option maxHeartbeats 8000000
set_option maxRecDepth 8000
namespace Go.LexSem
open Go Go.V Go.Proofs Go.Num

def Pk (q:Rt):PVal:=.agg [.bool q.1,A8 q.2.1,A8 q.2.2]
theorem Lk (q:Rt):Closed (Pk q):=of_eq_true (by simp only [Pk,CL,Av,and_self])
/-- What the fractions' method must do. -/
def Aap (ts:List Tok):Prop:=∀ r,PInv ts r.s→RSem 194 [] ts r (Dm ts r.s) Pk
theorem exV_ratR (q:Rt):PVal.agg [.int .i64 3,.int .i64 0,.bool q.1,A8 q.2.1,A8 q.2.2,.str [],.nils]=exV (.mk 3 0 q [] []):=by
 rw [D5,C5];rfl
theorem Si (ts:List Tok) (HF:Aap ts) (n:Nat) (H:RAll ts n) (r1:RS) (i1:PInv ts r1.s) (hn:40 * rem ts r1.s + 4≤n + 1):RSem 222 [] ts r1 (C1 ts (n + 1) r1.s) exV:=by
 have hx:=cy0 (ts:=ts) (r:=r1) (x:=C1 ts (n + 1) r1.s)
 replace hx:=hx.to fun _=>(by rw [prim_eq i1,primR])
 unfold RSem
 refine FSem.en 108 Tryz.func222 ?_
 simp only [Aj]
 refine WC.go ?_
 refine WC.bs fun K0 hK0=>?_
 refine WC.rs fun K hK=>?_
 simp only [↓EJ,FY,simprocAttr]
 refine CallX.tk hx i1 rfl rfl fun b2 r2 i2 q2 hx t2=>?_
 simp only [↓EJ,FY,simprocAttr]
 refine hK _ ?_;clear hK K
 refine WC.cond rfl (fun h=>?_) fun h=>?_
 ·cases h
  dsimp only at hx
  refine WC.go ?_
  refine WC.ret ?_
  simp only [↓EJ,FY,simprocAttr,EQ,EF,Tryz.results222,XS]
  exact RSem.done (hx (.mk 1 1 zr [] []) r2 (RelV.ok i2)) rfl (of_eq_true (by simp only [CL,PCL,and_self])) rfl
 cases h
 dsimp only at hx
 refine WC.rs fun K hK=>?_
 simp only [↓EJ,FY,simprocAttr]
 refine CallX.tk hx i2 rfl rfl fun b3 r3 i3 q3 hx t3=>?_
 simp only [↓EJ,FY,simprocAttr]
 refine hK _ (Aa [0,2,3,4,5,6,7,8,13,17,23,44,51,60,66,71,78,89] ?_);clear hK K
 refine WC.cond rfl (fun h=>?_) fun h=>?_
 ·cases h
  dsimp only at hx
  refine WC.go ?_
  refine WC.ret ?_
  simp only [↓EJ,FY,simprocAttr,EQ,EF,Tryz.results222,XS]
  exact RSem.done (hx (.mk 1 0 zr [] []) r3 (RelV.ok i3)) rfl (of_eq_true (by simp only [CL,PCL,and_self])) rfl
 cases h
 dsimp only at hx
 refine WC.rs fun K hK=>?_
 simp only [↓EJ,FY,simprocAttr]
 refine CallX.kd i3 1 rfl rfl fun b hb=>?_
 simp only [↓EJ,FY,simprocAttr]
 refine hK _ ?_;clear hK K
 refine WC.cond rfl (fun h=>?_) fun h=>?_
 ·cases h
  obtain ⟨he,hk⟩:=hb.1 rfl
  simp only [hk,if_true] at hx
  refine WC.rs fun K hK=>?_
  simp only [↓EJ,FY,simprocAttr]
  refine Ad hx (Fj ts r3 i3) (by simp only [CL,PCL,and_self]) (fun _ _=>rfl) rfl rfl fun w r4 i4 q4 h4 hx=>?_
  simp only [↓EJ,FY,simprocAttr]
  refine hK _ (Aa [0,2,3,4,5,6,7,8,23,44,51,60,66,71,78,89] ?_);clear hK K
  refine WC.ret ?_
  simp only [↓EJ,FY,simprocAttr,EQ,EF,Tryz.results222,XS]
  exact RSem.done (hx (.mk 4 0 zr w []) r4 (RelV.ok i4)) rfl (of_eq_true (by simp only [CL,PCL,and_self])) rfl
 cases h
 have hk1:=hb.2 rfl
 refine WC.rs fun K hK=>?_
 simp only [↓EJ,FY,simprocAttr]
 refine CallX.kd i3 2 rfl rfl fun b hb=>?_
 simp only [↓EJ,FY,simprocAttr]
 refine hK _ ?_;clear hK K
 refine WC.cond rfl (fun h=>?_) fun h=>?_
 ·cases h
  obtain ⟨he,hk⟩:=hb.1 rfl
  have i4:=i3.go (o:=r3.s.opn) (by omega) (by omega) (by omega)
  have hlt:r3.s.at_ + 1 < ts.length:=i4.lt
  have hle:=i3.le
  have hg:=If hlt
  have hnx:nxt ts r3.s=ts.getD (r3.s.at_ + 1) (5,[],1,1):=by rw [nxt,Nat.min_eq_left (by omega)]
  rw [←hnx] at hg
  have hw:=w64 (x:=(r3.s.at_:Int) + 1) (by omega) (by omega)
  have ht:(((r3.s.at_:Int) + 1)).toNat=r3.s.at_ + 1:=by omega
  simp only [hk,if_true,show ¬ (2=1) by decide,if_false] at hx
  refine Am fun K1 hK1=>?_
  refine WC.dg [⟨0,0,true,[]⟩,⟨1,0,true,[]⟩,⟨2,0,true,[]⟩,⟨3,0,true,[]⟩,⟨4,0,true,[]⟩,⟨5,0,true,[]⟩,⟨6,0,true,[]⟩,⟨7,0,true,[]⟩,⟨8,0,true,[]⟩,⟨9,0,true,[]⟩,⟨10,0,true,[]⟩,⟨11,1,false,[0,1,2,3,4,5,6,7,8,9,10]⟩,⟨12,1,false,[]⟩] [0,1,3,7,0,16,48,112,240,511,1023,0,4095] fun K hK=>?_
  simp only [↓EJ,FY,simprocAttr,Bj,tks,List.length_map,hw,ht,hg,Bn]
  repeat refine And.intro (by omega) ?_
  refine hK _ (Aa [0,2,3,4,5,6,7,8,44,51,60,66,71,78,89] ?_);clear hK K
  have hb9:∀ K:Bool→Prop,K (!Gx (nxt ts r3.s))→K (!Gx (nxt ts r3.s)):=fun _ h=>h
  have hdiv:Gx (nxt ts r3.s)=(decide ((nxt ts r3.s).1=4) && decide ((nxt ts r3.s).2.1=[47])):=rfl
  generalize nxt ts r3.s=t0 at *
  obtain ⟨k0,w0,l0,c0⟩:=t0
  by_cases h4:k0=4
  ·subst h4
   refine WC.rs fun K hK=>?_
   simp only [↓EJ,FY,simprocAttr,tkv,tk,Int.cast_ofNat_Int,Bool.not_true,Bool.not_false]
   refine hK _ (Aa [0,2,4,5,6,7,8,44,51,60,66,71,78,89] ?_);clear hK K
   refine WC.cond rfl (fun h=>?_) fun h=>?_
   ·have hdv:Gx (4,w0,l0,c0)=false:=by rw [hdiv];simpa using h
    simp only [hdv,Bool.false_eq_true,if_false] at hx
    refine WC.rs fun K hK=>?_
    simp only [↓EJ,FY,simprocAttr]
    refine Ad hx (C8 ts r3 i3) (by simp only [CL,PCL,and_self]) (fun _ _=>rfl) rfl rfl fun k r5 i5 q5 h5 hx=>?_
    simp only [↓EJ,FY,simprocAttr]
    refine hK _ ?_;clear hK K
    refine WC.ret ?_
    simp only [↓EJ,FY,simprocAttr,EQ,EF,Tryz.results222,XS]
    exact RSem.done (hx (.mk 2 k zr [] []) r5 (RelV.ok i5)) rfl (of_eq_true (by simp only [CL,PCL,and_self])) rfl
   have hdv:Gx (4,w0,l0,c0)=true:=by rw [hdiv];simpa using h
   simp only [hdv,if_true] at hx
   refine WC.skip (hK1 _ ?_)
   refine WC.rs fun K hK=>?_
   simp only [↓EJ,FY,simprocAttr]
   refine Ad hx (HF r3 i3) (by simp only [CL,and_self]) Lk rfl rfl fun q r5 i5 q5 h5 hx=>?_
   simp only [↓EJ,FY,simprocAttr,Pk]
   refine hK _ (Aa [0,2,4,5,6,7,8,51,60,66,71,78,89] ?_);clear hK K
   refine WC.ret ?_
   simp only [↓EJ,FY,simprocAttr,EQ,EF,Tryz.results222,XS]
   exact RSem.done (hx (.mk 3 0 q [] []) r5 (RelV.ok i5)) (exV_ratR q) (Au _) rfl
  ·have e4:((k0:Int)=4)=False:=eq_false (by omega)
   refine WC.rs fun K hK=>?_
   simp only [↓EJ,FY,simprocAttr,tkv,tk,e4,Bool.not_true,Bool.not_false]
   refine hK _ (Aa [0,2,4,5,6,7,8,44,51,60,66,71,78,89] ?_);clear hK K
   refine WC.cond rfl (fun h=>?_) fun h=>?_
   rotate_left
   ·simp at h
   have hdv:Gx (k0,w0,l0,c0)=false:=by rw [hdiv];simp [h4]
   simp only [hdv,Bool.false_eq_true,if_false] at hx
   refine WC.rs fun K hK=>?_
   simp only [↓EJ,FY,simprocAttr]
   refine Ad hx (C8 ts r3 i3) (by simp only [CL,PCL,and_self]) (fun _ _=>rfl) rfl rfl fun k r5 i5 q5 h5 hx=>?_
   simp only [↓EJ,FY,simprocAttr]
   refine hK _ ?_;clear hK K
   refine WC.ret ?_
   simp only [↓EJ,FY,simprocAttr,EQ,EF,Tryz.results222,XS]
   exact RSem.done (hx (.mk 2 k zr [] []) r5 (RelV.ok i5)) rfl (of_eq_true (by simp only [CL,PCL,and_self])) rfl
 cases h
 have hk2:=hb.2 rfl
 replace hx:=hx.to fun he=>(by rw [if_neg (hk1 he),if_neg (hk2 he)])
 refine WC.rs fun K hK=>?_
 simp only [↓EJ,FY,simprocAttr]
 refine CallX.tk hx i3 rfl rfl fun b4 r4 i4 q4 hx t4=>?_
 simp only [↓EJ,FY,simprocAttr]
 refine hK _ ?_;clear hK K
 refine WC.cond rfl (fun h=>?_) fun h=>?_
 ·cases h
  have y4:=(t4 rfl).2.2
  dsimp only at hx
  refine WC.rs fun K hK=>?_
  simp only [↓EJ,FY,simprocAttr]
  refine Ad hx (H.list r4 i4 (by omega)) (by simp only [CL,PCL,and_self]) Fc rfl rfl fun l r5 i5 q5 h5 hx=>?_
  simp only [↓EJ,FY,simprocAttr,XS,Bc]
  refine hK _ (Aa [0,2,4,5,6,7,8,60,66,71,78,89] ?_);clear hK K
  refine WC.rs fun K hK=>?_
  simp only [↓EJ,FY,simprocAttr]
  refine Ad hx (A0 ts r5 i5 [41]) (by simp only [CL,PCL,and_self]) (fun _ _=>rfl) rfl rfl fun u r6 i6 q6 h6 hx=>?_
  simp only [↓EJ,FY,simprocAttr]
  refine hK _ ?_;clear hK K
  refine Am fun K1 hK1=>?_
  match l,hx with
  | [],hx =>
    refine WC.rs fun K hK=>?_
    simp only [↓EJ,FY,simprocAttr,C5]
    refine hK _ ?_;clear hK K
    refine WC.cond rfl (fun h=>?_) fun h=>?_
    ·simp at h
    refine WC.skip (hK1 _ ?_)
    refine WC.go (Aa [0,2,4,5,6,7,8,66,71,78,89] ?_)
    refine WC.ret ?_
    simp only [↓EJ,FY,simprocAttr,EQ,EF,Tryz.results222]
    exact RSem.done (hx (exN 16 []) r6 (RelV.ok i6)) (by rw [I5,C5];rfl) (Au _) rfl
  | [a],hx =>
    refine WC.rs fun K hK=>?_
    simp only [↓EJ,FY,simprocAttr,E1 (List.cons_ne_nil _ _),List.map_cons,List.map_nil,List.length_cons,List.length_nil]
    refine hK _ ?_;clear hK K
    refine WC.cond rfl (fun h=>?_) fun h=>?_
    rotate_left
    ·simp at h
    refine WC.rs fun K hK=>?_
    simp only [↓EJ,FY,simprocAttr,XS,gi_0,E1 (List.cons_ne_nil _ _),List.map_cons,List.map_nil,List.length_cons,List.length_nil]
    refine hK _ (Aa [0,2,4,5,6,7,8,66,71,78,89] ?_);clear hK K
    refine WC.ret ?_
    simp only [↓EJ,FY,simprocAttr,EQ,EF,Tryz.results222,XS]
    exact RSem.done (hx a r6 (RelV.ok i6)) rfl (of_eq_true (by simp only [CL,PCL,and_self])) rfl
  | a::b::c,hx =>
    refine WC.rs fun K hK=>?_
    simp only [↓EJ,FY,simprocAttr,E1 (List.cons_ne_nil _ _),List.map_cons,List.map_nil,List.length_cons,List.length_nil]
    refine hK _ ?_;clear hK K
    refine WC.cond rfl (fun h=>?_) fun h=>?_
    ·simp at h;omega
    refine WC.skip (hK1 _ ?_)
    refine WC.rs fun K hK=>?_
    simp only [↓EJ,FY,simprocAttr,XS]
    refine hK _ ?_;clear hK K
    refine WC.ret ?_
    simp only [↓EJ,FY,simprocAttr,EQ,EF,Tryz.results222]
    exact RSem.done (hx (exN 16 (a::b::c)) r6 (RelV.ok i6)) (by rw [I5,E1 (List.cons_ne_nil _ _)];simp [XS.1]) (Au _) rfl
 cases h
 dsimp only at hx
 refine WC.rs fun K hK=>?_
 simp only [↓EJ,FY,simprocAttr]
 refine CallX.tk hx i4 rfl rfl fun b5 r5 i5 q5 hx t5=>?_
 simp only [↓EJ,FY,simprocAttr]
 refine hK _ (Aa [0,2,4,5,6,7,8,66,71,78,89] ?_);clear hK K
 refine WC.cond rfl (fun h=>?_) fun h=>?_
 ·cases h
  have y5:=(t5 rfl).2.2
  dsimp only at hx
  refine WC.go ?_
  refine Bt (X:=List Ex × RS) (fun y=>PInv ts y.2.s∧Cy ts (bnd (Ah ts [[93]] y.2.s) fun _ s3=>.ok (exN 18 y.1,s3)) y.2 (RelV ts (C1 ts (n + 1) r1.s) r1)) (fun y=>⟨[(5,Dv y.1),(2,.ptr (.l 0) 0 0),(0,.ptr (.o 0) 0 0)],[Bj ts y.2],[.row [.agg (exC (exN 0 []))] 7 53],[]⟩) ?_ ?_
  ·refine WC.rs fun K hK=>?_
   simp only [↓EJ,FY,simprocAttr]
   refine Fz i5 [93] rfl rfl fun b hb=>?_
   simp only [↓EJ,FY,simprocAttr]
   refine hK _ ?_;clear hK K
   refine WC.cond rfl (fun h=>?_) fun h=>?_
   ·obtain rfl:b=false:=by simpa using h
    replace hx:=hx.to fun he=>(by simp only [hb.2 rfl he];exact rfl)
    refine WC.r1 ?_
    simp only [↓EJ,FY,simprocAttr]
    refine Ad hx (H.list r5 i5 (by omega)) (by simp only [CL,PCL,and_self]) Fc rfl rfl fun l r6 i6 q6 h6 hx=>?_
    simp only [↓EJ,FY,simprocAttr]
    try simp only [EQ,simprocAttr]
    refine ⟨(l,r6),[0],⟨i6,hx⟩,?_⟩
    exact Conv.all (by simp only [EC,simprocAttr,PRN,Xt,Ap,XS])
   ·obtain rfl:b=true:=by simpa using h
    replace hx:=hx.to fun he=>(by simp only [(hb.1 rfl).2];exact rfl)
    refine WC.skip ?_
    try simp only [EQ,simprocAttr]
    refine ⟨([],r5),[0],⟨i5,hx⟩,?_⟩
    exact Conv.all (by simp only [EC,simprocAttr,PRN,Xt,Ap,C5])
  rintro ⟨l,r6⟩ ⟨i6,hx⟩
  dsimp only at i6 hx ⊢
  refine WC.rs fun K hK=>?_
  simp only [↓EJ,FY,simprocAttr]
  refine Ad hx (A0 ts r6 i6 [93]) (by simp only [CL,PCL,and_self]) (fun _ _=>rfl) rfl rfl fun u r7 i7 q7 h7 hx=>?_
  simp only [↓EJ,FY,simprocAttr]
  refine hK _ ?_;clear hK K
  refine WC.rs fun K hK=>?_
  simp only [↓EJ,FY,simprocAttr,XS,Bc]
  refine hK _ (Aa [0,2,4,5,6,7,8,78,89] ?_);clear hK K
  refine WC.ret ?_
  simp only [↓EJ,FY,simprocAttr,EQ,EF,Tryz.results222]
  exact RSem.done (hx (exN 18 l) r7 (RelV.ok i7)) (by rw [I5];rfl) (Au _) rfl
 cases h
 dsimp only at hx
 refine WC.rs fun K hK=>?_
 simp only [↓EJ,FY,simprocAttr]
 refine CallX.tk hx i5 rfl rfl fun b6 r6 i6 q6 hx t6=>?_
 simp only [↓EJ,FY,simprocAttr]
 refine hK _ ?_;clear hK K
 refine WC.cond rfl (fun h=>?_) fun h=>?_
 ·cases h
  have y6:=(t6 rfl).2.2
  dsimp only at hx
  refine WC.rs fun K hK=>?_
  simp only [↓EJ,FY,simprocAttr]
  refine Ad hx (A0 ts r6 i6 [40]) (by simp only [CL,PCL,and_self]) (fun _ _=>rfl) rfl rfl fun u r7 i7 q7 h7 hx=>?_
  simp only [↓EJ,FY,simprocAttr]
  refine hK _ ?_;clear hK K
  refine WC.rs fun K hK=>?_
  simp only [↓EJ,FY,simprocAttr]
  refine Ad hx (H.expr r7 i7 (by omega)) (by simp only [CL,PCL,and_self]) Au rfl rfl fun a r8 i8 q8 h8 hx=>?_
  simp only [↓EJ,FY,simprocAttr,XS]
  refine hK _ (Aa [0,2,4,5,6,7,8,89] ?_);clear hK K
  refine WC.rs fun K hK=>?_
  simp only [↓EJ,FY,simprocAttr]
  refine Ad hx (A0 ts r8 i8 [41]) (by simp only [CL,PCL,and_self]) (fun _ _=>rfl) rfl rfl fun u r9 i9 q9 h9 hx=>?_
  simp only [↓EJ,FY,simprocAttr]
  refine hK _ ?_;clear hK K
  refine WC.rs fun K hK=>?_
  simp only [↓EJ,FY,simprocAttr,XS]
  refine CallX.mk (CallW.pure (Qe 20 a) (by simp only [CL,PCL,and_self]) (by simp only [CL,PCL,and_self]) ?_)
  simp only [↓EJ,FY,simprocAttr,XS]
  refine hK _ ?_;clear hK K
  refine WC.ret ?_
  simp only [↓EJ,FY,simprocAttr,EQ,EF,Tryz.results222,XS]
  exact RSem.done (hx (exN 20 [a]) r9 (RelV.ok i9)) rfl (of_eq_true (by simp only [CL,PCL,and_self])) rfl
 cases h
 dsimp only at hx
 refine WC.rs fun K hK=>?_
 simp only [↓EJ,FY,simprocAttr]
 refine CallX.tk hx i6 rfl rfl fun b7 r7 i7 q7 hx t7=>?_
 simp only [↓EJ,FY,simprocAttr]
 refine hK _ (Aa [0,2,4,5,7,8,89] ?_);clear hK K
 refine WC.cond rfl (fun h=>?_) fun h=>?_
 ·cases h
  have y7:=(t7 rfl).2.2
  dsimp only at hx
  refine WC.rs fun K hK=>?_
  simp only [↓EJ,FY,simprocAttr]
  refine Ad hx (A0 ts r7 i7 [40]) (by simp only [CL,PCL,and_self]) (fun _ _=>rfl) rfl rfl fun u r8 i8 q8 h8 hx=>?_
  simp only [↓EJ,FY,simprocAttr]
  refine hK _ ?_;clear hK K
  refine WC.rs fun K hK=>?_
  simp only [↓EJ,FY,simprocAttr]
  refine Ad hx (H.expr r8 i8 (by omega)) (by simp only [CL,PCL,and_self]) Au rfl rfl fun a r9 i9 q9 h9 hx=>?_
  simp only [↓EJ,FY,simprocAttr,XS]
  refine hK _ ?_;clear hK K
  refine WC.rs fun K hK=>?_
  simp only [↓EJ,FY,simprocAttr]
  refine Ad hx (A0 ts r9 i9 [44]) (by simp only [CL,PCL,and_self]) (fun _ _=>rfl) rfl rfl fun u r10 i10 q10 h10 hx=>?_
  simp only [↓EJ,FY,simprocAttr]
  refine hK _ (Aa [0,2,4,5,7,8] ?_);clear hK K
  refine WC.rs fun K hK=>?_
  simp only [↓EJ,FY,simprocAttr]
  refine Ad hx (H.expr r10 i10 (by omega)) (by simp only [CL,PCL,and_self]) Au rfl rfl fun c r11 i11 q11 h11 hx=>?_
  simp only [↓EJ,FY,simprocAttr,XS]
  refine hK _ ?_;clear hK K
  refine WC.rs fun K hK=>?_
  simp only [↓EJ,FY,simprocAttr]
  refine Ad hx (A0 ts r11 i11 [41]) (by simp only [CL,PCL,and_self]) (fun _ _=>rfl) rfl rfl fun u r12 i12 q12 h12 hx=>?_
  simp only [↓EJ,FY,simprocAttr]
  refine hK _ ?_;clear hK K
  refine WC.rs fun K hK=>?_
  simp only [↓EJ,FY,simprocAttr,XS]
  refine CallX.mk (CallW.pure (Fh 19 a c) (by simp only [CL,PCL,and_self]) (by simp only [CL,PCL,and_self]) ?_)
  simp only [↓EJ,FY,simprocAttr,XS]
  refine hK _ (Aa [0,2,4,5] ?_);clear hK K
  refine WC.ret ?_
  simp only [↓EJ,FY,simprocAttr,EQ,EF,Tryz.results222,XS]
  exact RSem.done (hx (exN 19 [a,c]) r12 (RelV.ok i12)) rfl (of_eq_true (by simp only [CL,PCL,and_self])) rfl
 cases h
 dsimp only at hx
 refine WC.skip (hK0 _ ?_)
 refine WC.rs fun K hK=>?_
 simp only [↓EJ,FY,simprocAttr]
 refine CallX.fl i7 4 (by decide) rfl rfl fun r8 i8 q8 n8 h8=>?_
 simp only [↓EJ,FY,simprocAttr]
 refine hK _ ?_;clear hK K
 refine WC.go ?_
 refine WC.ret ?_
 simp only [↓EJ,FY,simprocAttr,EQ,EF,Tryz.results222,XS]
 exact RSem.done (hx (exN 0 []) r8 (h8 _ _)) zex (Au _) rfl
end Go.LexSem
