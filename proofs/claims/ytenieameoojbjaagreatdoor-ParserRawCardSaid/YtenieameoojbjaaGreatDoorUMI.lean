/-
 Texts joined: ParA ParB ParC ParD ParE ParF ParG.
-/
import Derived.Test.YtenieameoojbjaaGreatDoorUMH
set_option linter.unusedVariables false
set_option linter.unusedSimpArgs false
set_option linter.loopingSimpArgs false
set_option maxHeartbeats 4000000
set_option maxRecDepth 8000
namespace Go.LexSem
open Go Go.V Go.Proofs Go.Num

/-- Where the parser is: the token, the brackets that are open. -/
structure PS where
 at_:Nat
 opn:Int
def tks (ts:List Tok):PVal:=.slc (ts.map tkv)
def E7 (ts:List Tok) (s:PS):PVal:=.agg [tks ts,.int .i64 s.at_,.int .i64 s.opn]
def Bq (ts:List Tok) (s:PS):Blk:=.row [E7 ts s] 3 93
/-- The token that stands at. -/
def cur (ts:List Tok) (s:PS):Tok:=ts.getD s.at_ (5,[],1,1)
/-- What holds between the calls. -/
structure PInv (ts:List Tok) (s:PS):Prop where
 lt:s.at_ < ts.length
 le:ts.length≤10000
 o1:s.opn≤s.at_
 o2:-(s.at_:Int)≤s.opn
 fin:(ts.getD (ts.length - 1) (5,[],1,1)).1=5
 num:∀ t∈ts,t.1=2→t.2.1≠[]∧t.2.1.length≤60∧∀ c∈t.2.1,A9 (c.toNat:Int)=true
theorem PInv.go {ts:List Tok} {s:PS} (h:PInv ts s) (hk:(cur ts s).1≠5) {o:Int} (h1:o≤s.opn + 1) (h2:s.opn - 1≤o):PInv ts ⟨s.at_ + 1,o⟩:=by
 have a:=h.lt
 have b:=h.o1
 have c:=h.o2
 refine ⟨?_,h.le,by dsimp only;omega,by dsimp only;omega,h.fin,h.num⟩
 rcases Nat.lt_or_ge (s.at_ + 1) ts.length with h' | h'
 ·exact h'
 ·exact absurd (by unfold cur;rw [show s.at_=ts.length - 1 by omega];exact h.fin) hk
theorem If {ts:List Tok} {i:Nat} (h:i < ts.length):gi (ts.map tkv) i=tkv (ts.getD i (5,[],1,1)):=by simp [gi,List.getD_eq_getElem?_getD,h]
theorem Bn (t:Tok):(tkv t).cells=[.int .i64 t.1,.str t.2.1,.int .i64 t.2.2.1,.int .i64 t.2.2.2]:=rfl
theorem Cd (t:Tok):Closed (tkv t):=fun _=>rfl
theorem Ag (ts:List Tok) (s:PS):D8 (Bq ts s):=fun f=>by
 simp only [Bq,E7,tks,Cu,Ba,ren,Cb ts f]
theorem F1 (ts:List Tok) (s:PS) (h:PInv ts s):FSem C 69 [.ptr (.o 0) 0 0] [Bq ts s] fun r st=>r=.ret (tkv (cur ts s))∧st=[Bq ts s]:=by
 have hg:=If h.lt
 have hlt:=h.lt
 have hle:=h.le
 refine FSem.en 13 Tryz.func69 ?_
 simp only [Aj]
 refine WC.rs fun K hK=>?_
 simp only [↓EJ,FY,simprocAttr,Bq,E7,tks]
 refine hK _ ?_;clear hK K
 refine WC.dg [⟨0,0,false,[]⟩,⟨1,0,false,[]⟩,⟨2,0,false,[]⟩,⟨3,0,false,[]⟩,⟨4,0,false,[]⟩,⟨5,0,false,[]⟩,⟨6,0,false,[]⟩,⟨7,0,false,[]⟩,⟨8,0,false,[]⟩,⟨9,0,false,[]⟩,⟨10,1,false,[]⟩] [0,1,3,7,0,16,48,112,255,511,1023] fun K hK=>?_
 simp only [↓EJ,FY,simprocAttr,Bq,E7,tks,List.length_map,Int.toNat_natCast,hg,Bn]
 repeat refine And.intro (by omega) ?_
 refine hK _ (Aa [2] ?_);clear hK K
 refine WC.ret ?_
 simp only [↓EJ,FY,simprocAttr,EQ,EF,Tryz.results69]
 refine EndsIn.plain (by simp only [CL,and_self]) (fun k hk=>?_) ⟨rfl,rfl⟩
 simp only [List.mem_singleton] at hk
 subst hk
 exact Ag ts s
/-- An error: where it stands, and its code. -/
abbrev Er:=(Nat × Nat) × Nat
def Py (e:Er):PVal:=.iface 90 (.agg [.int .i64 e.1.1,.int .i64 e.1.2,.int .i64 e.2])
theorem Ln (e:Er):Closed (Py e):=fun _=>rfl
def Gr (t:Tok) (code:Nat):Er:=((t.2.2.1,t.2.2.2),code)
/-- How a method of the parser ends: with its value and the parser further on, or with a panic. -/
def POut {α:Type} (ts:List Tok) (x:Except Er (α × PS)) (enc:α→PVal) (r:PRes) (st:List Blk):Prop :=
 match x with
 | .ok (v,s)=>r=.ret (enc v)∧st=[Bq ts s]
 | .error e=>r=.pan (Py e)∧∃ s,st=[Bq ts s]
/-- A method of the parser. -/
def PSem {α:Type} (f:FuncId) (args:List PVal) (ts:List Tok) (s:PS) (x:Except Er (α × PS)) (enc:α→PVal):Prop :=
 FSem C f (.ptr (.o 0) 0 0::args) [Bq ts s] (POut ts x enc)
theorem B1 {α:Type} {g:FuncId} {args args':List PVal} {σ:St} {K KP:PVal→St→Prop} {r:Ref} {ts:List Tok} {s:PS} {x:Except Er (α × PS)} {enc:α→PVal} (spec:PSem g args ts s x enc) (hb:Ao σ.o σ.l r=some (Bq ts s))
  (ha:args'=.ptr r 0 0::args) (hca:ClosedL args) (hcl:∀ v,Closed (enc v)) (hok:∀ v s',x=.ok (v,s')→K (enc v) (A1 σ r (Bq ts s'))) (herr:∀ e s',x=.error e→KP (Py e) (A1 σ r (Bq ts s'))):CallW C g args' σ K KP :=
 CallW.of spec [r] (by simp) (by rw [ha];simp only [Ba,ren,hca _,A4,List.getD_cons_zero]) rfl (fun j r' k hr hk=>by
  cases j with
  | zero=>simp at hr hk;subst hr hk;rw [Ag];exact hb
  | succ j=>simp at hr) fun q st' ho=>by
  have e:∀ b,By σ [r] [b]=A1 σ r b:=fun b=>by simp [By]
  unfold POut at ho
  split at ho
  ·rename_i v s' 
   obtain ⟨rfl,rfl⟩:=ho
   simp only [List.map_cons,List.map_nil,Ag _ _ _,hcl _ _,e]
   exact hok _ _ rfl
  ·obtain ⟨rfl,s',rfl⟩:=ho
   simp only [List.map_cons,List.map_nil,Ag _ _ _,Ln _ _,e]
   exact herr _ _ rfl
/-- The ends of a method's walk. -/
theorem PSem.done {α:Type} {fn:Func} {ts:List Tok} {s:PS} {x:Except Er (α × PS)} {enc:α→PVal} {σ:St} {v:α} {p:PVal} (hx:x=.ok (v,s)) (hp:p=enc v) (hc:Closed (enc v)) (ho:σ.o=[Bq ts s]):EndsIn σ p fun p st=>POut ts x enc (.ret p) st:=by
 subst hp
 refine EndsIn.plain hc (fun k hk=>?_) ?_
 ·rw [ho] at hk
  simp only [List.mem_singleton] at hk
  subst hk
  exact Ag ts s
 ·rw [hx,ho];exact ⟨rfl,rfl⟩
theorem PSem.fails {α:Type} {fn:Func} {ts:List Tok} {s:PS} {x:Except Er (α × PS)} {enc:α→PVal} {σ:St} {e:Er} (hx:x=.error e) (hd:σ.d=[]) (ho:σ.o=[Bq ts s]):FnQ C fn (POut ts x enc) (.pan (Py e)) σ:=by
 refine ⟨hd,EndsIn.plain (Ln e) (fun k hk=>?_) ?_⟩
 ·rw [ho] at hk
  simp only [List.mem_singleton] at hk
  subst hk
  exact Ag ts s
 ·rw [hx,ho];exact ⟨rfl,_,rfl⟩
/-- What a failure at a token is. -/
def failV (t:Tok) (code:Nat):PVal:=Py (Gr t code)
theorem U6 (t:Tok) (code:Nat):Closed (failV t code):=fun _=>rfl
theorem fail_sem (ts:List Tok) (s:PS) (h:PInv ts s) (code:Nat):FSem C 70 [.ptr (.o 0) 0 0,.int .i64 code] [Bq ts s] fun r st=>r=.pan (failV (cur ts s) code)∧st=[Bq ts s]:=by
 refine FSem.en 15 Tryz.func70 ?_
 simp only [Aj]
 refine WC.rs fun K hK=>?_
 simp only [↓EJ,FY,simprocAttr]
 refine CallX.mk (CallW.one (r:=.o 0) (F1 ts s h) rfl (Ag ts s) (Ag ts s) (Cd _) (by simp [Ba,ren,A4]) ?_)
 simp only [↓EJ,FY,simprocAttr,Bn]
 refine And.intro rfl ?_
 refine hK _ ?_;clear hK K
 have hcc:ccq C.P 90=true:=by kernel_rfl
 refine WC.r1 ?_
 simp only [↓EJ,FY,simprocAttr,EPn,hcc,true_and]
 refine ⟨rfl,EndsIn.plain (U6 (cur ts s) code) (fun k hk=>?_) ⟨rfl,rfl⟩⟩
 simp only [List.mem_singleton] at hk
 subst hk
 exact Ag ts s
theorem Gq {α:Type} {enc:α→PVal} (ts:List Tok) (s:PS) (h:PInv ts s) (code:Nat):PSem 70 [.int .i64 code] ts s (.error (Gr (cur ts s) code):Except Er (α × PS)) enc:=by
 have hf:=fail_sem ts s h code
 exact ⟨hf.1,fun V vs hM hv=>(hf.2 V vs hM hv).mono fun e w' ⟨V',st',r,h1,h2,h3,h4,h5,h6,h7⟩=>⟨V',st',r,h1,h2,h3,h4,h5,h6,s,h7⟩⟩
/-- Whether the token that stands at is this word or sign. -/
def isP (ts:List Tok) (s:PS) (t:List UInt8):Bool:=(decide ((cur ts s).1=3) || decide ((cur ts s).1=4)) && decide ((cur ts s).2.1=t)
theorem D3 (ts:List Tok) (s:PS) (h:PInv ts s) (t:List UInt8):FSem C 66 [.ptr (.o 0) 0 0,.str t] [Bq ts s] fun r st=>r=.ret (.bool (isP ts s t))∧st=[Bq ts s]:=by
 refine FSem.en 22 Tryz.func66 ?_
 simp only [Aj]
 refine WC.go ?_
 refine WC.rs fun K hK=>?_
 simp only [↓EJ,FY,simprocAttr]
 refine CallX.mk (CallW.one (r:=.o 0) (F1 ts s h) rfl (Ag ts s) (Ag ts s) (Cd _) (by simp [Ba,ren,A4]) ?_)
 simp only [↓EJ,FY,simprocAttr,Bn]
 refine And.intro rfl ?_
 refine hK _ ?_;clear hK K
 unfold isP
 generalize cur ts s=t0 at *
 obtain ⟨k,w,l,c⟩:=t0
 dsimp only
 have fin:∀ b:Bool,b=((decide (k=3) || decide (k=4)) && decide (w=t))→EndsIn ⟨[(4,.bool b),(5,.ptr (.l 0) 0 0),(0,.ptr (.o 0) 0 0),(1,.str t)],[Bq ts s],[.row [.agg [.int .i64 k,.str w,.int .i64 l,.int .i64 c]] 4 44],[]⟩ (.bool b) fun r st=>PRes.ret r=.ret (.bool ((decide (k=3) || decide (k=4)) && decide (w=t)))∧st=[Bq ts s]:=fun b hb =>
  EndsIn.plain (by simp only [CL]) (fun x hx=>by simp only [List.mem_singleton] at hx;subst hx;exact Ag ts s) ⟨by rw [hb],rfl⟩
 by_cases h3:k=3
 ·subst h3
  refine WC.rs fun K hK=>?_
  simp only [↓EJ,FY,simprocAttr,Int.cast_ofNat_Int,Bool.not_true,Bool.not_false]
  refine hK _ (Aa [0,1,4,5] ?_);clear hK K
  refine WC.ret ?_
  simp only [↓EJ,FY,simprocAttr,EQ,EF,Tryz.results66]
  exact fin _ (by simp)
 ·have i3:((k:Int)=3)=False:=eq_false (by omega)
  by_cases h4:k=4
  ·subst h4
   refine WC.rs fun K hK=>?_
   simp only [↓EJ,FY,simprocAttr,Int.cast_ofNat_Int,Bool.not_true,Bool.not_false]
   refine hK _ (Aa [0,1,4,5] ?_);clear hK K
   refine WC.ret ?_
   simp only [↓EJ,FY,simprocAttr,EQ,EF,Tryz.results66]
   exact fin _ (by simp)
  ·have i4:((k:Int)=4)=False:=eq_false (by omega)
   refine WC.rs fun K hK=>?_
   simp only [↓EJ,FY,simprocAttr,i3,i4,Bool.not_true,Bool.not_false]
   refine hK _ (Aa [0,1,4,5] ?_);clear hK K
   refine WC.ret ?_
   simp only [↓EJ,FY,simprocAttr,EQ,EF,Tryz.results66]
   exact fin _ (by simp [h3,h4])
end Go.LexSem
set_option maxHeartbeats 4000000
set_option maxRecDepth 8000
namespace Go.LexSem
open Go Go.V Go.Proofs Go.Num

theorem Es (f:Ref→Ref) (ts:List Tok) (s:PS):Cu f (Bq ts s)=Bq ts s:=Ag ts s f
def Cz (t:List UInt8):Bool:=decide (t=[40]) || (decide (t=[91]) || decide (t=[123]))
def Em (t:List UInt8):Bool:=decide (t=[41]) || (decide (t=[93]) || decide (t=[125]))
def Et (t:List UInt8) (o:Int):Int:=if Cz t then o + 1 else if Em t then o - 1 else o
def Ak (ts:List Tok) (t:List UInt8) (s:PS):Except Er (Bool × PS) :=
 if isP ts s t=false then .ok (false,s) else if Cz t=true∧s.opn=10 then .error (Gr (cur ts s) 9) else .ok (true,⟨s.at_ + 1,Et t s.opn⟩)
theorem Xb {ts:List Tok} {s:PS} {t:List UInt8} (h:isP ts s t=true):(cur ts s).1≠5:=fun e=>by simp [isP,e] at h
theorem Tb (t:List UInt8) (o:Int):Et t o≤o + 1∧o - 1≤Et t o:=by unfold Et;split <;> (try split) <;> omega
theorem Dx {ts:List Tok} {t:List UInt8} {s s':PS} {b:Bool} (h:PInv ts s) (hx:Ak ts t s=.ok (b,s')):PInv ts s'∧s.at_≤s'.at_∧(b=true→s'.at_=s.at_ + 1):=by
 unfold Ak at hx
 split at hx
 ·cases hx;exact ⟨h,Nat.le_refl _,fun h=>by cases h⟩
 ·rename_i hi
  split at hx
  ·cases hx
  ·cases hx
   obtain ⟨o1,o2⟩:=Tb t s.opn
   exact ⟨h.go (Xb (by simpa using hi)) o1 o2,Nat.le_succ _,fun _=>rfl⟩
theorem Iu (ts:List Tok) (s:PS) (h:PInv ts s) (t:List UInt8):PSem 63 [.str t] ts s (Ak ts t s) .bool:=by
 have hlt:=h.lt
 have hle:=h.le
 have ho1:=h.o1
 have ho2:=h.o2
 unfold PSem
 refine FSem.en 46 Tryz.func63 ?_
 simp only [Aj]
 refine WC.go ?_
 refine Am fun K1 hK1=>?_
 refine WC.rs fun K hK=>?_
 simp only [↓EJ,FY,simprocAttr]
 refine CallX.mk (CallW.one (r:=.o 0) (D3 ts s h t) rfl (Ag ts s) (Ag ts s) (by simp only [CL]) (by simp [Ba,ren,A4]) ?_)
 simp only [↓EJ,FY,simprocAttr]
 refine hK _ ?_;clear hK K
 refine WC.cond rfl (fun h=>?_) fun h=>?_
 ·have hi:isP ts s t=false:=by simpa using h
  refine WC.go ?_
  refine WC.ret ?_
  simp only [↓EJ,FY,simprocAttr,EQ,EF,Tryz.results63]
  exact PSem.done (fn:=Tryz.f63) (s:=s) (v:=false) (by simp [Ak,hi]) rfl (fun _=>rfl) rfl
 ·have hi:isP ts s t=true:=by simpa using h
  refine WC.skip (hK1 _ ?_)
  refine Bt (X:=Int) (fun o=>¬ (Cz t=true∧s.opn=10)∧o=Et t s.opn) (fun o=>⟨[(0,.ptr (.o 0) 0 0),(1,.str t)],[Bq ts ⟨s.at_,o⟩],[],[]⟩) ?_ ?_
  ·refine WC.go ?_
   refine WC.b1 ?_
   refine Bt (X:=Bool) (fun b=>b=Cz t) (fun b=>⟨[(10,.bool b),(9,.str t),(0,.ptr (.o 0) 0 0),(1,.str t)],[Bq ts s],[],[]⟩) ?_ ?_
   ·refine WC.go ?_
    refine WC.cond rfl (fun h=>?_) fun h=>?_
    ·refine WC.skip ?_
     try simp only [EQ,simprocAttr]
     refine ⟨true,[],by simp at h;simp [Cz,h],?_⟩
     rw [h]
     exact Conv.all (by simp only [EC,simprocAttr,Es])
    ·rename_i n1
     refine WC.go (Aa [0,1,4,9,10,18,28] ?_)
     refine WC.cond rfl (fun h=>?_) fun h=>?_
     ·refine WC.skip ?_
      try simp only [EQ,simprocAttr]
      refine ⟨true,[],by simp at h;simp [Cz,h],?_⟩
      rw [h]
      exact Conv.all (by simp only [EC,simprocAttr,Es])
     ·rename_i n2
      refine WC.r1 ?_
      simp only [↓EJ,FY,simprocAttr]
      try simp only [EQ,simprocAttr]
      refine ⟨decide (t=[123]),[],by simp at n1 n2 h;simp [Cz, *],?_⟩
      exact Conv.all (by simp only [EC,simprocAttr,Es])
   ·rintro b rfl
    refine WC.cond rfl (fun h=>?_) fun h=>?_
    ·have hop:Cz t=true:=by simpa using h
     refine Am fun K4 hK4=>?_
     refine WC.rs fun K hK=>?_
     simp only [↓EJ,FY,simprocAttr,Bq,E7]
     refine hK _ ?_;clear hK K
     refine WC.cond rfl (fun h=>?_) fun h=>?_
     ·have h10:s.opn=10:=by simpa using h
      refine WC.r1 ?_
      simp only [↓EJ,FY,simprocAttr]
      refine CallX.mk (B1 (α:=Unit) (enc:=fun _=>.tuple []) (Gq ts s ‹_› 9) rfl rfl (by simp only [CL,and_self]) (fun _=>by simp only [CL]) (fun v s' hv=>nomatch hv) (fun e s' he=>?_))
      cases he
      exact PSem.fails (fn:=Tryz.f63) (s:=s') (by simp [Ak,hi,hop,h10]) rfl rfl
     ·have h10:s.opn≠10:=by simpa using h
      refine WC.skip (hK4 _ ?_)
      refine WC.r1 ?_
      simp (disch:=omega) only [↓EJ,FY,simprocAttr,w64,Bh]
      try simp only [EQ,simprocAttr]
      refine ⟨Et t s.opn,[],⟨fun hh=>h10 hh.2,rfl⟩,?_⟩
      have e1:Et t s.opn=s.opn + 1:=by simp [Et,hop]
      rw [e1]
      exact Conv.all (by simp only [EC,simprocAttr,Bq,E7,tks,Cb _ _])
    ·have hop:Cz t=false:=by simpa using h
     refine Bt (X:=Bool) (fun b=>b=Em t) (fun b=>⟨[(28,.bool b),(9,.str t),(0,.ptr (.o 0) 0 0),(1,.str t)],[Bq ts s],[],[]⟩) ?_ ?_
     ·refine WC.go (Aa [0,1,4,9,10,28] ?_)
      refine WC.cond rfl (fun h=>?_) fun h=>?_
      ·refine WC.skip ?_
       try simp only [EQ,simprocAttr]
       refine ⟨true,[],by simp at h;simp [Em,h],?_⟩
       rw [h]
       exact Conv.all (by simp only [EC,simprocAttr,Es])
      ·rename_i n1
       refine WC.go ?_
       refine WC.cond rfl (fun h=>?_) fun h=>?_
       ·refine WC.skip ?_
        try simp only [EQ,simprocAttr]
        refine ⟨true,[],by simp at h;simp [Em,h],?_⟩
        rw [h]
        exact Conv.all (by simp only [EC,simprocAttr,Es])
       ·rename_i n2
        refine WC.r1 ?_
        simp only [↓EJ,FY,simprocAttr]
        try simp only [EQ,simprocAttr]
        refine ⟨decide (t=[125]),[],by simp at n1 n2 h;simp [Em, *],?_⟩
        exact Conv.all (by simp only [EC,simprocAttr,Es])
     ·rintro b rfl
      refine WC.cond rfl (fun h=>?_) fun h=>?_
      ·have hcl:Em t=true:=by simpa using h
       refine WC.r1 ?_
       simp (disch:=omega) only [↓EJ,FY,simprocAttr,w64,Bh,Bq,E7]
       try simp only [EQ,simprocAttr]
       refine ⟨Et t s.opn,[],⟨fun hh=>by rw [hop] at hh;exact absurd hh.1 (by simp),rfl⟩,?_⟩
       have e1:Et t s.opn=s.opn - 1:=by simp [Et,hop,hcl]
       rw [e1]
       exact Conv.all (by simp only [EC,simprocAttr,Bq,E7,tks,Cb _ _])
      ·have hcl:Em t=false:=by simpa using h
       refine WC.skip ?_
       try simp only [EQ,simprocAttr]
       refine ⟨Et t s.opn,[],⟨fun hh=>by rw [hop] at hh;exact absurd hh.1 (by simp),rfl⟩,?_⟩
       have e1:Et t s.opn=s.opn:=by simp [Et,hop,hcl]
       rw [e1]
       exact Conv.all (by simp only [EC,simprocAttr,Es])
  ·rintro o ⟨hno,rfl⟩
   have hb1:Et t s.opn≤s.opn + 1∧s.opn - 1≤Et t s.opn:=by unfold Et;split <;> (try split) <;> omega
   refine WC.rs fun K hK=>?_
   simp (disch:=omega) only [↓EJ,FY,simprocAttr,w64,Bh,Bq,E7]
   refine hK _ (Aa [0,1,4,9,10,28] ?_);clear hK K
   refine WC.go ?_
   refine WC.ret ?_
   simp only [↓EJ,FY,simprocAttr,EQ,EF,Tryz.results63]
   refine PSem.done (fn:=Tryz.f63) (s:=⟨s.at_ + 1,Et t s.opn⟩) (v:=true) (by simp only [Ak,hi,Bool.true_eq_false,if_false,if_neg hno]) rfl (fun _=>rfl) ?_
   simp only [Bq,E7,tks,Int.natCast_add];rfl
end Go.LexSem
set_option maxHeartbeats 4000000
set_option maxRecDepth 8000
namespace Go.LexSem
open Go Go.V Go.Proofs Go.Num

def C2 (ts:List Tok) (s:PS):Except Er (List UInt8 × PS):=if (cur ts s).1≠1 then .error (Gr (cur ts s) 4) else .ok ((cur ts s).2.1,⟨s.at_ + 1,s.opn⟩)
theorem C4 (ts:List Tok) (s:PS) (h:PInv ts s):PSem 64 [] ts s (C2 ts s) .str:=by
 have hlt:=h.lt
 have hle:=h.le
 unfold PSem
 refine FSem.en 20 Tryz.func64 ?_
 simp only [Aj]
 refine WC.go ?_
 refine WC.rs fun K hK=>?_
 simp only [↓EJ,FY,simprocAttr]
 refine CallX.mk (CallW.one (r:=.o 0) (F1 ts s h) rfl (Ag ts s) (Ag ts s) (Cd _) (by simp [Ba,ren,A4]) ?_)
 simp only [↓EJ,FY,simprocAttr,Bn]
 refine And.intro rfl ?_
 refine hK _ ?_;clear hK K
 refine Am fun K1 hK1=>?_
 refine WC.go ?_
 refine WC.cond rfl (fun h=>?_) fun h=>?_
 ·have hk:(cur ts s).1≠1:=by simp at h;omega
  refine WC.r1 ?_
  simp only [↓EJ,FY,simprocAttr]
  refine CallX.mk (B1 (α:=Unit) (enc:=fun _=>.tuple []) (Gq ts s ‹_› 4) rfl rfl (by simp only [CL,and_self]) (fun _=>by simp only [CL]) (fun v s' hv=>nomatch hv) (fun e s' he=>?_))
  cases he
  exact PSem.fails (fn:=Tryz.f64) (s:=s') (by simp [C2,hk]) rfl rfl
 ·have hk:(cur ts s).1=1:=by simp at h;omega
  refine WC.skip (hK1 _ ?_)
  refine WC.rs fun K hK=>?_
  simp (disch:=omega) only [↓EJ,FY,simprocAttr,w64,Bh,Bq,E7]
  refine hK _ (Aa [2,3] ?_);clear hK K
  refine WC.go ?_
  refine WC.ret ?_
  simp only [↓EJ,FY,simprocAttr,EQ,EF,Tryz.results64]
  refine PSem.done (fn:=Tryz.f64) (s:=⟨s.at_ + 1,s.opn⟩) (v:=(cur ts s).2.1) (by simp [C2,hk]) rfl (fun _=>rfl) ?_
  simp only [Bq,E7,tks,Int.natCast_add];rfl
theorem Th {ts:List Tok} {s s':PS} {v:List UInt8} (h:PInv ts s) (hx:C2 ts s=.ok (v,s')):PInv ts s'∧s'.at_=s.at_ + 1:=by
 unfold C2 at hx
 split at hx
 ·cases hx
 ·rename_i hk
  cases hx
  exact ⟨h.go (by omega) (by omega) (by omega),rfl⟩
theorem I7 {ts:List Tok} {s:PS} (h:PInv ts s):cur ts s∈ts:=by
 unfold cur
 have:ts.getD s.at_ (5,[],1,1)=ts[s.at_]'h.lt:=by simp [List.getD_eq_getElem?_getD,h.lt]
 rw [this];exact List.getElem_mem _
/-- The number that stands at: its limbs; the parser stays. -/
def E9 (ts:List Tok) (s:PS):Except Er (Nat × PS):=if (cur ts s).1≠2 then .error (Gr (cur ts s) 4) else .ok (dec (cur ts s).2.1,s)
theorem L1 (ts:List Tok) (s:PS) (h:PInv ts s):PSem 145 [] ts s (E9 ts s) nv:=by
 unfold PSem
 refine FSem.en 19 Tryz.func145 ?_
 simp only [Aj]
 refine WC.go ?_
 refine Am fun K1 hK1=>?_
 refine WC.rs fun K hK=>?_
 simp only [↓EJ,FY,simprocAttr]
 refine CallX.mk (CallW.one (r:=.o 0) (F1 ts s h) rfl (Ag ts s) (Ag ts s) (Cd _) (by simp [Ba,ren,A4]) ?_)
 simp only [↓EJ,FY,simprocAttr,tkv,tk]
 refine hK _ ?_;clear hK K
 refine WC.cond rfl (fun h=>?_) fun h=>?_
 ·have hk:(cur ts s).1≠2:=by simp at h;omega
  refine WC.r1 ?_
  simp only [↓EJ,FY,simprocAttr]
  refine CallX.mk (B1 (α:=Unit) (enc:=fun _=>.tuple []) (Gq ts s ‹_› 4) rfl rfl (by simp only [CL,and_self]) (fun _=>by simp only [CL]) (fun v s' hv=>nomatch hv) (fun e s' he=>?_))
  cases he
  exact PSem.fails (fn:=Tryz.f145) (s:=s') (by simp [E9,hk]) rfl rfl
 ·have hk:(cur ts s).1=2:=by simp at h;omega
  rename_i hI
  obtain ⟨n0,n60,nd⟩:=hI.num _ (I7 hI) hk
  refine WC.skip (hK1 _ ?_)
  refine WC.rs fun K hK=>?_
  simp only [↓EJ,FY,simprocAttr]
  refine CallX.mk (CallW.one (r:=.o 0) (F1 ts s hI) rfl (Ag ts s) (Ag ts s) (Cd _) (by simp [Ba,ren,A4]) ?_)
  simp only [↓EJ,FY,simprocAttr,tkv,tk]
  refine Bg (Ux _ n0 n60 nd) ?_
  simp only [↓EJ,FY,simprocAttr]
  refine hK _ (Aa [2,3] ?_);clear hK K
  refine WC.go ?_
  refine WC.ret ?_
  simp only [↓EJ,FY,simprocAttr,EQ,EF,Tryz.results145]
  exact PSem.done (fn:=Tryz.f145) (s:=s) (v:=dec (cur ts s).2.1) (by simp [E9,hk]) rfl (fun f=>Ik f _) rfl
def Bu (ts:List Tok) (s:PS):Except Er (Nat × PS):=if (cur ts s).1≠2 then .error (Gr (cur ts s) 4) else if 1000000 < dec (cur ts s).2.1 then .error (Gr (cur ts s) 9) else .ok (dec (cur ts s).2.1,⟨s.at_ + 1,s.opn⟩)
theorem L6 {s:List UInt8} (h60:s.length≤60) (hd:∀ c∈s,A9 (c.toNat:Int)=true):okN (dec s):=by
 refine Nat.le_trans (Gl (k:=100) (Nat.lt_of_lt_of_le (Oy s hd) ?_)) (by decide)
 exact Nat.le_trans (Nat.pow_le_pow_right (by decide) h60) (by decide)
theorem D2 (ts:List Tok) (s:PS) (h:PInv ts s):PSem 124 [] ts s (Bu ts s) (fun n=>.int .i64 n):=by
 have hlt:=h.lt
 have hle:=h.le
 have hI:=h
 unfold PSem
 refine FSem.en 27 Tryz.func124 ?_
 simp only [Aj]
 refine WC.go ?_
 refine WC.rs fun K hK=>?_
 simp only [↓EJ,FY,simprocAttr]
 refine CallX.mk (B1 (enc:=nv) (L1 ts s hI) rfl rfl (by simp only [CL,and_self]) (fun v f=>Ik f v) (fun v s' hv=>?_) (fun e s' he=>?_))
 ·unfold E9 at hv
  split at hv
  ·cases hv
  rename_i hk
  have hk:(cur ts s).1=2:=by omega
  obtain ⟨n0,n60,nd⟩:=hI.num _ (I7 hI) hk
  have hok:=L6 n60 nd
  have hif:=Y3 (toL (dec (cur ts s).2.1)) (Bo _) (Nat.le_trans hok (by decide))
  rw [Br] at hif
  cases hv
  generalize hd:dec (cur ts s).2.1=v at *
  simp only [↓EJ,FY,simprocAttr]
  refine CallX.mk (CallW.pure hif (by simp only [CL,Al,nv,and_self]) (by split <;> simp only [CL,and_self]) ?_)
  by_cases hv:v < 9223372036854775808
  ·rw [if_pos hv]
   simp only [↓EJ,FY,simprocAttr]
   refine hK _ (Aa [0,2,3,4,16] ?_);clear hK K
   refine Am fun K1 hK1=>?_
   refine WC.rs fun K hK=>?_
   simp only [↓EJ,FY,simprocAttr,Bool.not_true,Bool.not_false]
   refine hK _ ?_;clear hK K
   refine WC.cond rfl (fun h=>?_) fun h=>?_
   ·have hgt:1000000 < v:=by simp at h;omega
    refine WC.r1 ?_
    simp only [↓EJ,FY,simprocAttr]
    refine CallX.mk (B1 (α:=Unit) (enc:=fun _=>.tuple []) (Gq ts s hI 9) rfl rfl (by simp only [CL,and_self]) (fun _=>by simp only [CL]) (fun v s' hv=>nomatch hv) (fun e s' he=>?_))
    cases he
    exact PSem.fails (fn:=Tryz.f124) (s:=s') (by simp [Bu,hk,hd];omega) rfl rfl
   ·have hgt:¬ 1000000 < v:=by simp at h;omega
    refine WC.skip (hK1 _ ?_)
    refine WC.rs fun K hK=>?_
    simp (disch:=omega) only [↓EJ,FY,simprocAttr,w64,Bh,Bq,E7]
    refine hK _ (Aa [2,3] ?_);clear hK K
    refine WC.go ?_
    refine WC.ret ?_
    simp only [↓EJ,FY,simprocAttr,EQ,EF,Tryz.results124]
    refine PSem.done (fn:=Tryz.f124) (s:=⟨s.at_ + 1,s.opn⟩) (v:=v) (by simp [Bu,hk,hd,hgt]) rfl (fun _=>rfl) ?_
    simp only [Bq,E7,tks,Int.natCast_add];rfl
  ·rw [if_neg hv]
   simp only [↓EJ,FY,simprocAttr]
   refine hK _ (Aa [0,2,3,4,16] ?_);clear hK K
   refine Am fun K1 hK1=>?_
   refine WC.rs fun K hK=>?_
   simp only [↓EJ,FY,simprocAttr,Bool.not_true,Bool.not_false]
   refine hK _ ?_;clear hK K
   refine WC.cond rfl (fun h=>?_) fun h=>?_
   ·skip
    refine WC.r1 ?_
    simp only [↓EJ,FY,simprocAttr]
    refine CallX.mk (B1 (α:=Unit) (enc:=fun _=>.tuple []) (Gq ts s hI 9) rfl rfl (by simp only [CL,and_self]) (fun _=>by simp only [CL]) (fun v s' hv=>nomatch hv) (fun e s' he=>?_))
    cases he
    exact PSem.fails (fn:=Tryz.f124) (s:=s') (by simp [Bu,hk,hd];omega) rfl rfl
   ·simp at h
 ·have:e=Gr (cur ts s) 4∧(cur ts s).1≠2:=by
   unfold E9 at he
   split at he
   ·cases he;exact ⟨rfl,‹_›⟩
   ·cases he
  exact PSem.fails (fn:=Tryz.f124) (s:=s') (by simp [Bu,this.2,this.1]) rfl rfl
end Go.LexSem
set_option maxHeartbeats 4000000
set_option maxRecDepth 8000
namespace Go.LexSem
open Go Go.V Go.Proofs Go.Num

theorem I3 {ts:List Tok} {s s':PS} {v:Nat} (h:PInv ts s) (hx:Bu ts s=.ok (v,s')):PInv ts s'∧s'.at_=s.at_ + 1∧v≤1000000:=by
 unfold Bu at hx
 split at hx
 ·cases hx
 ·rename_i hk
  split at hx
  ·cases hx
  ·rename_i hv
   cases hx
   exact ⟨h.go (by omega) (by omega) (by omega),rfl,by omega⟩
def Cj (ts:List Tok) (s:PS):Except Er (Int × PS) :=
 match Ak ts [45] s with
 | .error e=>.error e
 | .ok (b,s1)=>match Bu ts s1 with
   | .error e=>.error e
   | .ok (n,s2)=>.ok (if b then -(n:Int) else n,s2)
theorem Hh (ts:List Tok) (s:PS) (h:PInv ts s):PSem 123 [] ts s (Cj ts s) (.int .i64):=by
 have hI:=h
 unfold PSem
 refine FSem.en 10 Tryz.func123 ?_
 simp only [Aj]
 refine WC.go ?_
 refine Am fun K1 hK1=>?_
 refine WC.rs fun K hK=>?_
 simp only [↓EJ,FY,simprocAttr]
 refine CallX.mk (B1 (enc:=.bool) (Iu ts s hI [45]) rfl rfl (by simp only [CL,and_self]) (fun v=>by simp only [CL]) (fun b s1 hb=>?_) (fun e s' he=>?_))
 ·obtain ⟨hI1,_,_⟩:=Dx hI hb
  simp only [↓EJ,FY,simprocAttr]
  refine hK _ ?_;clear hK K
  refine WC.cond rfl (fun h=>?_) fun h=>?_
  ·have hbt:b=true:=by simpa using h
   subst hbt
   refine WC.rs fun K hK=>?_
   simp only [↓EJ,FY,simprocAttr]
   refine CallX.mk (B1 (enc:=fun n:Nat=>.int .i64 (n:Int)) (D2 ts s1 hI1) rfl rfl (by simp only [CL,and_self]) (fun v=>by simp only [CL]) (fun n s2 hn=>?_) (fun e s' he=>?_))
   ·obtain ⟨_,_,hsm⟩:=I3 hI1 hn
    simp (disch:=omega) only [↓EJ,FY,simprocAttr,w64,Bh]
    refine hK _ ?_;clear hK K
    refine WC.ret ?_
    simp only [↓EJ,FY,simprocAttr,EQ,EF,Tryz.results123]
    exact PSem.done (fn:=Tryz.f123) (s:=s2) (v:=-(n:Int)) (by simp [Cj,hb,hn]) (by rw [Int.zero_sub]) (fun _=>rfl) rfl
   ·exact PSem.fails (fn:=Tryz.f123) (s:=s') (by simp [Cj,hb,he]) rfl rfl
  ·have hbf:b=false:=by simpa using h
   subst hbf
   refine WC.skip (hK1 _ ?_)
   refine WC.rs fun K hK=>?_
   simp only [↓EJ,FY,simprocAttr]
   refine CallX.mk (B1 (enc:=fun n:Nat=>.int .i64 (n:Int)) (D2 ts s1 hI1) rfl rfl (by simp only [CL,and_self]) (fun v=>by simp only [CL]) (fun n s2 hn=>?_) (fun e s' he=>?_))
   ·simp only [↓EJ,FY,simprocAttr]
    refine hK _ (Aa [2] ?_);clear hK K
    refine WC.ret ?_
    simp only [↓EJ,FY,simprocAttr,EQ,EF,Tryz.results123]
    exact PSem.done (fn:=Tryz.f123) (s:=s2) (v:=(n:Int)) (by simp [Cj,hb,hn]) rfl (fun _=>rfl) rfl
   ·exact PSem.fails (fn:=Tryz.f123) (s:=s') (by simp [Cj,hb,he]) rfl rfl
 ·exact PSem.fails (fn:=Tryz.f123) (s:=s') (by simp [Cj,he]) rfl rfl
theorem Ea {ts:List Tok} {s s':PS} {v:Nat} (h:PInv ts s) (hx:E9 ts s=.ok (v,s')):s'=s∧(cur ts s).1=2∧v=dec (cur ts s).2.1∧okN v:=by
 unfold E9 at hx
 split at hx
 ·cases hx
 ·rename_i hk
  have hk:(cur ts s).1=2:=by omega
  obtain ⟨n0,n60,nd⟩:=h.num _ (I7 h) hk
  cases hx
  exact ⟨rfl,hk,rfl,L6 n60 nd⟩
def Gs (ts:List Tok) (s:PS):Except Er (Nat × PS) :=
 match E9 ts s with
 | .error e=>.error e
 | .ok (n,s1)=>if n=0 then .error (Gr (cur ts s1) 3) else .ok (n,⟨s1.at_ + 1,s1.opn⟩)
theorem Ts (ts:List Tok) (s:PS) (h:PInv ts s):PSem 172 [] ts s (Gs ts s) nv:=by
 have hI:=h
 have hlt:=h.lt
 have hle:=h.le
 unfold PSem
 refine FSem.en 19 Tryz.func172 ?_
 simp only [Aj]
 refine WC.go ?_
 refine WC.rs fun K hK=>?_
 simp only [↓EJ,FY,simprocAttr]
 refine CallX.mk (B1 (enc:=nv) (L1 ts s hI) rfl rfl (by simp only [CL,and_self]) (fun v f=>Ik f v) (fun v s1 hv=>?_) (fun e s' he=>?_))
 ·obtain ⟨rfl,hk,hvd,hok⟩:=Ea hI hv
  simp only [↓EJ,FY,simprocAttr]
  refine hK _ ?_;clear hK K
  refine Am fun K1 hK1=>?_
  refine WC.rs fun K hK=>?_
  simp only [↓EJ,FY,simprocAttr,Dp,List.length_map]
  refine hK _ ?_;clear hK K
  refine WC.cond rfl (fun h=>?_) fun h=>?_
  ·have h0:v=0:=toL_eq_nil.1 (List.length_eq_zero_iff.1 (by simpa using h))
   refine WC.r1 ?_
   simp only [↓EJ,FY,simprocAttr]
   refine CallX.mk (B1 (α:=Unit) (enc:=fun _=>.tuple []) (Gq ts s1 hI 3) rfl rfl (by simp only [CL,and_self]) (fun _=>by simp only [CL]) (fun v s' hv=>nomatch hv) (fun e s' he=>?_))
   cases he
   exact PSem.fails (fn:=Tryz.f172) (s:=s') (by simp [Gs,hv,h0]) rfl rfl
  ·have h0:v≠0:=fun e=>by subst e;rw [Cq] at h;simp at h
   refine WC.skip (hK1 _ ?_)
   refine WC.rs fun K hK=>?_
   simp (disch:=omega) only [↓EJ,FY,simprocAttr,w64,Bh,Bq,E7]
   refine hK _ (Aa [2,3] ?_);clear hK K
   refine WC.go ?_
   refine WC.ret ?_
   simp only [↓EJ,FY,simprocAttr,EQ,EF,Tryz.results172]
   refine PSem.done (fn:=Tryz.f172) (s:=⟨s1.at_ + 1,s1.opn⟩) (v:=v) (by simp [Gs,hv,h0]) rfl (fun f=>Ik f v) ?_
   simp only [Bq,E7,tks,Int.natCast_add];rfl
 ·exact PSem.fails (fn:=Tryz.f172) (s:=s') (by simp [Gs,he]) rfl rfl
end Go.LexSem
set_option maxHeartbeats 4000000
set_option maxRecDepth 8000
namespace Go.LexSem
open Go Go.V Go.Proofs Go.Num

theorem F4 {ts:List Tok} {s s':PS} {v:Nat} (h:PInv ts s) (hx:Gs ts s=.ok (v,s')):PInv ts s'∧s'.at_=s.at_ + 1∧v≠0∧okN v:=by
 unfold Gs at hx
 split at hx
 ·cases hx
 ·rename_i n s1 hl
  obtain ⟨rfl,hk,_,hok⟩:=Ea h hl
  split at hx
  ·cases hx
  ·cases hx
   exact ⟨h.go (by omega) (by omega) (by omega),rfl,‹_›,hok⟩
/-- A fraction in lowest terms. -/
def Hq (b:Bool) (n d:Nat):Bool × Nat × Nat:=(b && decide (n≠0),n / n.gcd d,d / n.gcd d)
def Aag (q:Bool × Nat × Nat):PVal:=Fb q.1 q.2.1 q.2.2
def Dm (ts:List Tok) (s:PS):Except Er ((Bool × Nat × Nat) × PS) :=
 match Ak ts [45] s with
 | .error e=>.error e
 | .ok (b,s1)=>match E9 ts s1 with
   | .error e=>.error e
   | .ok (n,s2)=>match Ak ts [47] ⟨s2.at_ + 1,s2.opn⟩ with
     | .error e=>.error e
     | .ok (false,s3)=>.ok (Hq b n 1,s3)
     | .ok (true,s3)=>match Gs ts s3 with
       | .error e=>.error e
       | .ok (d,s4)=>.ok (Hq b n d,s4)
theorem J6 (ts:List Tok) (s:PS) (h:PInv ts s):PSem 147 [] ts s (Dm ts s) Aag:=by
 have hI:=h
 unfold PSem
 refine FSem.en 32 Tryz.func147 ?_
 simp only [Aj]
 refine WC.go ?_
 refine WC.rs fun K hK=>?_
 simp only [↓EJ,FY,simprocAttr]
 refine CallX.mk (B1 (enc:=.bool) (Iu ts s hI [45]) rfl rfl (by simp only [CL,and_self]) (fun v=>by simp only [CL]) (fun b s1 hb=>?_) (fun e s' he=>?_))
 ·obtain ⟨hI1,_,_⟩:=Dx hI hb
  have hlt:=hI1.lt
  have hle:=hI1.le
  simp only [↓EJ,FY,simprocAttr]
  refine hK _ ?_;clear hK K
  refine A2 [2] fun K hK=>?_
  simp only [↓EJ,FY,simprocAttr,EZ]
  refine CallX.mk (B1 (enc:=nv) (L1 ts s1 hI1) rfl rfl (by simp only [CL,and_self]) (fun v f=>Ik f v) (fun n s2 hn=>?_) (fun e s' he=>?_))
  ·obtain ⟨rfl,hk,hvd,hok⟩:=Ea hI1 hn
   simp only [↓EJ,FY,simprocAttr,EZ]
   refine hK _ ?_;clear hK K
   refine WC.rs fun K hK=>?_
   simp (disch:=omega) only [↓EJ,FY,simprocAttr,w64,Bh,Bq,E7]
   refine hK _ (Aa [0,2,3,4,5,6,21] ?_);clear hK K
   have hI2:=hI1.go (o:=s2.opn) (by omega) (by omega) (by omega)
   refine Bt (X:=Nat × PS) (fun x=>okN x.1∧x.1≠0∧PInv ts x.2∧Dm ts s=.ok (Hq b n x.1,x.2)) (fun x=>⟨[(5,nv x.1),(4,nv n),(3,.bool b),(2,.ptr (.l 0) 0 0),(0,.ptr (.o 0) 0 0)],[Bq ts x.2],[.row [.agg [.bool false,.nils,.nils]] 3 50],[]⟩) ?_ ?_
   ·refine WC.rs fun K hK=>?_
    simp only [↓EJ,FY,simprocAttr]
    refine CallX.mk (B1 (enc:=.bool) (Iu ts ⟨s2.at_ + 1,s2.opn⟩ hI2 [47]) rfl rfl (by simp only [CL,and_self]) (fun v=>by simp only [CL]) (fun b2 s3 hb2=>?_) (fun e s' he=>?_))
    ·obtain ⟨hI3,_,_⟩:=Dx hI2 hb2
     simp only [↓EJ,FY,simprocAttr]
     refine hK _ ?_;clear hK K
     refine WC.cond rfl (fun h=>?_) fun h=>?_
     ·have hbt:b2=true:=by simpa using h
      subst hbt
      refine WC.r1 ?_
      simp only [↓EJ,FY,simprocAttr]
      refine CallX.mk (B1 (enc:=nv) (Ts ts s3 hI3) rfl rfl (by simp only [CL,and_self]) (fun v f=>Ik f v) (fun d s4 hd=>?_) (fun e s' he=>?_))
      ·obtain ⟨hI4,_,hd0,hdk⟩:=F4 hI3 hd
       simp only [↓EJ,FY,simprocAttr]
       try simp only [EQ,simprocAttr]
       refine ⟨(d,s4),[0],⟨hdk,hd0,hI4,by simp [Dm,hb,hn,hb2,hd]⟩,?_⟩
       exact Conv.all (by simp only [EC,simprocAttr,Ik,Es])
      ·exact PSem.fails (fn:=Tryz.f147) (s:=s') (by simp [Dm,hb,hn,hb2,he]) rfl rfl
     ·have hbt:b2=false:=by simpa using h
      subst hbt
      refine WC.skip ?_
      try simp only [EQ,simprocAttr]
      have hok1:okN 1:=by rw [okN,Mq (by decide) (by decide)];decide
      have e1:nv 1=.slc [.int .u32 1]:=by rw [nv,Mq (by decide) (by decide)];rfl
      refine ⟨(1,s3),[0],⟨hok1,Nat.one_ne_zero,hI3,by simp [Dm,hb,hn,hb2]⟩,?_⟩
      exact Conv.all (by simp only [EC,simprocAttr,Ik,Es,e1])
    ·exact PSem.fails (fn:=Tryz.f147) (s:=s') (by simp [Dm,hb,hn,he]) rfl rfl
   ·rintro ⟨d,s4⟩ ⟨hdk,hd0,hI4,hx⟩
    dsimp only at hdk hd0 hI4 hx ⊢
    have hm:=W2 b n d hok hdk
    rw [if_neg hd0] at hm
    have hfc:=Hy (b && decide (n≠0)) (n / n.gcd d) (d / n.gcd d)
    have hfs:=Pi (b && decide (n≠0)) (n / n.gcd d) (d / n.gcd d)
    have hfl:=Pj (b && decide (n≠0)) (n / n.gcd d) (d / n.gcd d)
    have hfd:Fb (b && decide (n≠0)) (n / n.gcd d) (d / n.gcd d)=.agg [.bool (b && decide (n≠0)),A8 (n / n.gcd d),nv (d / n.gcd d)]:=rfl
    have hfe:Fb (b && decide (n≠0)) (n / n.gcd d) (d / n.gcd d)=Aag (Hq b n d):=rfl
    generalize hF:Fb (b && decide (n≠0)) (n / n.gcd d) (d / n.gcd d)=fr at *
    refine WC.rs fun K hK=>?_
    simp only [↓EJ,FY,simprocAttr]
    refine CallX.mk (CallW.pure hm (by simp only [CL,Ar,and_self]) (by simp only [CL,hfc,and_self]) ?_)
    simp only [↓EJ,FY,simprocAttr,hfs,hfl,List.length_cons,List.length_nil,List.drop_succ_cons,List.drop_zero,List.append_nil,and_true,true_and]
    refine hK _ (Aa [0,2,3,4,5,6] ?_);clear hK K
    rw [←hfd]
    refine WC.rs fun K hK=>?_
    simp only [↓EJ,FY,simprocAttr,hfs,hfl,List.length_cons,List.length_nil,List.drop_succ_cons,List.drop_zero,List.append_nil,and_true,true_and]
    refine hK _ ?_;clear hK K
    refine WC.ret ?_
    simp only [↓EJ,FY,simprocAttr,EQ,EF,Tryz.results147]
    exact PSem.done (fn:=Tryz.f147) (s:=s4) (v:=Hq b n d) hx (by rw [←hfe,hfd]) (by rw [←hfe];exact hfc) rfl
  ·exact PSem.fails (fn:=Tryz.f147) (s:=s') (by simp [Dm,hb,he]) rfl rfl
 ·exact PSem.fails (fn:=Tryz.f147) (s:=s') (by simp [Dm,he]) rfl rfl
end Go.LexSem
set_option maxHeartbeats 4000000
set_option maxRecDepth 8000
namespace Go.LexSem
open Go Go.V Go.Proofs Go.Num

theorem wB_min (D:Ctx) (ts:Array TypeId) (k k':IntKind) (a b:Int) (σ:St) (K KP:PVal→St→Prop):Cp D .min ts [.int k a,.int k' b] σ K KP=K (.int k (mn a b)) σ:=rfl
/-- The token behind the one that stands at. -/
def nxt (ts:List Tok) (s:PS):Tok:=ts.getD (min (s.at_ + 1) (ts.length - 1)) (5,[],1,1)
theorem Wz (ts:List Tok) (s:PS) (h:PInv ts s):FSem C 128 [.ptr (.o 0) 0 0] [Bq ts s] fun r st=>r=.ret (tkv (nxt ts s))∧st=[Bq ts s]:=by
 have hlt:=h.lt
 have hle:=h.le
 have hg:=If (ts:=ts) (i:=min (s.at_ + 1) (ts.length - 1)) (by omega)
 refine FSem.en 21 Tryz.func128 ?_
 simp only [Aj]
 refine WC.rs fun K hK=>?_
 simp only [↓EJ,FY,simprocAttr,Bq,E7,tks]
 refine hK _ ?_;clear hK K
 have w1:=w64 (x:=(s.at_:Int) + 1) (by omega) (by omega)
 have w2:=w64 (x:=(ts.length:Int) - 1) (by omega) (by omega)
 have em:mn ((s.at_:Int) + 1) ((ts.length:Int) - 1)=((min (s.at_ + 1) (ts.length - 1):Nat):Int):=by unfold mn;split <;> omega
 refine WC.dg [⟨0,0,false,[]⟩,⟨1,0,false,[]⟩,⟨2,0,false,[]⟩,⟨3,0,false,[]⟩,⟨4,0,false,[]⟩,⟨5,0,false,[]⟩,⟨6,0,false,[]⟩,⟨7,0,false,[]⟩,⟨8,0,false,[]⟩,⟨9,0,false,[]⟩,⟨10,0,false,[]⟩,⟨11,0,false,[]⟩,⟨12,0,false,[]⟩,⟨13,0,false,[]⟩,⟨14,0,false,[]⟩,⟨15,0,false,[]⟩,⟨16,0,false,[]⟩,⟨17,0,false,[]⟩,⟨18,1,false,[]⟩] [0,1,3,7,0,16,48,112,240,0,512,1536,3584,7680,15872,32752,65535,131071,262143] fun K hK=>?_
 simp only [↓EJ,FY,simprocAttr,wB_min,Bq,E7,tks,List.length_map,w1,w2,em,Int.toNat_natCast,hg,Bn]
 repeat refine And.intro (by omega) ?_
 refine hK _ (Aa [2] ?_);clear hK K
 refine WC.ret ?_
 simp only [↓EJ,FY,simprocAttr,EQ,EF,Tryz.results128]
 refine EndsIn.plain (by simp only [CL,and_self]) (fun k hk=>?_) ⟨rfl,rfl⟩
 simp only [List.mem_singleton] at hk
 subst hk
 exact Ag ts s
end Go.LexSem
set_option maxHeartbeats 4000000
set_option maxRecDepth 8000
namespace Go.LexSem
open Go Go.V Go.Proofs Go.Num

/-- Words and signs that must stand there, one behind the other. -/
def Ah (ts:List Tok):List (List UInt8)→PS→Except Er (Unit × PS)
 | [],s=>.ok ((),s)
 | t::r,s=>match Ak ts t s with
   | .error e=>.error e
   | .ok (true,s1)=>Ah ts r s1
   | .ok (false,s1)=>.error (Gr (cur ts s1) 4)
theorem Lm {ts:List Tok}:∀ {l:List (List UInt8)} {s s':PS} {u:Unit},PInv ts s→Ah ts l s=.ok (u,s')→PInv ts s'∧s'.at_=s.at_ + l.length
 | [],s,s',u,h,hx=>by cases hx;exact ⟨h,rfl⟩
 | t::r,s,s',u,h,hx=>by
   unfold Ah at hx
   split at hx
   ·cases hx
   ·rename_i s1 ha
    obtain ⟨h1,_,h2⟩:=Dx h ha
    obtain ⟨h3,h4⟩:=Lm h1 hx
    refine ⟨h3,?_⟩
    rw [h4,h2 rfl,List.length_cons];omega
   ·cases hx
theorem Gb (f:Ref→Ref) (l:List (List UInt8)):Ba f (l.map PVal.str)=l.map PVal.str:=ClosedL.map (fun t=>fun _=>rfl) l f
theorem Zd (ts:List Tok) (l:List (List UInt8)) (s:PS) (h:PInv ts s) (hl:l.length≤1000):PSem 65 [.slc (l.map .str)] ts s (Ah ts l s) (fun _=>.tuple []):=by
 unfold PSem
 refine FSem.en 19 Tryz.func65 ?_
 simp only [Aj]
 refine WC.go ?_
 refine WC.b1 ?_
 refine WC.loop (X:=Nat × PS) (fun x=>⟨[(8,.int .i64 x.1),(7,.int .i64 l.length),(6,.slc (l.map .str)),(0,.ptr (.o 0) 0 0)],[Bq ts x.2],[],[]⟩) (fun x=>x.1≤l.length∧PInv ts x.2∧Ah ts l s=Ah ts (l.drop x.1) x.2) (fun x=>l.length - x.1) (0,s) [] ⟨Nat.zero_le _,h,rfl⟩ ?_ ?_
 ·exact Conv.all (by simp only [EC,simprocAttr,Es,Gb _ _])
 ·rintro ⟨i,s1⟩ ⟨h1,h2,h3⟩
  dsimp only at h1 h2 h3 ⊢
  refine WC.go ?_
  refine WC.cs (c:=.tmp 9) rfl fun K2 hK2=>⟨fun h=>?_,fun h=>?_⟩
  ·have hlt:i < l.length:=by simpa using h
   have hg:gi (l.map PVal.str) i=.str l[i]:=by simp [gi,hlt]
   rw [List.drop_eq_getElem_cons hlt] at h3
   generalize l[i]=t at *
   refine WC.skip (hK2 _ ?_)
   refine WC.bs fun K3 hK3=>?_
   refine WC.rs fun K hK=>?_
   simp only [↓EJ,FY,simprocAttr,List.length_map,hg]
   repeat refine And.intro (by omega) ?_
   refine hK _ ?_;clear hK K
   refine WC.rs fun K hK=>?_
   simp only [↓EJ,FY,simprocAttr]
   refine CallX.mk (B1 (enc:=.bool) (Iu ts s1 h2 t) rfl rfl (by simp only [CL,and_self]) (fun v=>by simp only [CL]) (fun b s2 hb=>?_) (fun e s' he=>?_))
   ·obtain ⟨hI,_,_⟩:=Dx h2 hb
    simp only [↓EJ,FY,simprocAttr]
    refine hK _ ?_;clear hK K
    refine WC.cond rfl (fun h=>?_) fun h=>?_
    ·have hbf:b=false:=by simpa using h
     subst hbf
     refine WC.r1 ?_
     simp only [↓EJ,FY,simprocAttr]
     refine CallX.mk (B1 (α:=Unit) (enc:=fun _=>.tuple []) (Gq ts s2 hI 4) rfl rfl (by simp only [CL,and_self]) (fun _=>by simp only [CL]) (fun v s' hv=>nomatch hv) (fun e s' he=>?_))
     cases he
     exact PSem.fails (fn:=Tryz.f65) (s:=s') (by rw [h3];simp [Ah,hb]) rfl rfl
    ·have hbt:b=true:=by simpa using h
     subst hbt
     refine WC.skip (hK3 _ ?_)
     refine WC.r1 ?_
     simp (disch:=omega) only [↓EJ,FY,simprocAttr,w64,Bh]
     try simp only [EQ,simprocAttr]
     refine ⟨(i + 1,s2),[],⟨by dsimp only;omega,hI,by rw [h3];simp [Ah,hb]⟩,by dsimp only;omega,?_⟩
     exact Conv.all (by simp only [EC,simprocAttr,Int.natCast_add,Es,Gb _ _])
   ·exact PSem.fails (fn:=Tryz.f65) (s:=s') (by rw [h3];simp [Ah,he]) rfl rfl
  ·have hge:i=l.length:=by simp at h;omega
   refine WC.exit ?_
   simp only [EQ,reduceIte,Nat.reduceEqDiff]
   subst hge
   refine ⟨rfl,?_⟩
   refine PSem.done (fn:=Tryz.f65) (s:=s1) (v:=()) (by rw [h3,List.drop_length];rfl) rfl (fun _=>rfl) rfl
end Go.LexSem
