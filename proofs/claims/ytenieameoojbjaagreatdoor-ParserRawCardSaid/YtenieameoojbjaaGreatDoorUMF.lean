/-
 Texts joined: LexA LexB LexC LexD LexE LexF LexG LexH LexI LexJ LexK LexL LexM LexN LexO LexP LexQ.
-/
import Derived.Test.YtenieameoojbjaaGreatDoorUME
import Derived.Test.YtenieameoojbjaaGreatDoorUMC
set_option linter.unusedVariables false
set_option linter.unusedSimpArgs false
set_option linter.loopingSimpArgs false
set_option maxRecDepth 8000
namespace Go.LexSem
open Go Go.V Go.Proofs

/-! ### bytes -/
def Ee (x:Int):Bool:=decide (x=32) || (decide (x=9) || decide (x=10))
def A9 (x:Int):Bool:=decide (48≤x) && decide (x≤57)
def Fl (x:Int):Bool:=(decide (97≤x) && decide (x≤122)) || ((decide (65≤x) && decide (x≤90)) || decide (x=95))

theorem Ox (x:Int):FSem C 97 [.int .u8 x] [] fun r st=>r=.ret (.bool (A9 x))∧st=[]:=by
 refine FSem.en 9 Tryz.func97 ?_
 simp only [Aj]
 refine WC.go ?_
 refine WC.rs fun K hK=>?_
 simp only [↓EJ,FY,simprocAttr]
 repeat' ((first | refine Eb (fun h=>?_) (fun h=>?_) | refine Gm (fun h=>?_) (fun h=>?_)) <;> simp only [↓EJ,FY,simprocAttr,h,Bool.not_true,Bool.not_false])
 all_goals
  refine hK _ (Aa [2] ?_);clear hK K
  refine WC.ret ?_
  simp only [↓EJ,FY,simprocAttr,EQ,EF,Tryz.results97]
  refine An (by simp only [CL]) ?_
  simp [A9,h]

theorem No (x:Int):FSem C 54 [.int .u8 x] [] fun r st=>r=.ret (.bool (A9 x))∧st=[]:=by
 refine FSem.en 9 Tryz.func54 ?_
 simp only [Aj]
 refine WC.go ?_
 refine WC.rs fun K hK=>?_
 simp only [↓EJ,FY,simprocAttr]
 repeat' ((first | refine Eb (fun h=>?_) (fun h=>?_) | refine Gm (fun h=>?_) (fun h=>?_)) <;> simp only [↓EJ,FY,simprocAttr,h,Bool.not_true,Bool.not_false])
 all_goals
  refine hK _ (Aa [2] ?_);clear hK K
  refine WC.ret ?_
  simp only [↓EJ,FY,simprocAttr,EQ,EF,Tryz.results54]
  refine An (by simp only [CL]) ?_
  simp [A9,h]

theorem blank_sem (x:Int):FSem C 58 [.int .u8 x] [] fun r st=>r=.ret (.bool (Ee x))∧st=[]:=by
 refine FSem.en 13 Tryz.func58 ?_
 simp only [Aj]
 refine WC.go ?_
 refine WC.rs fun K hK=>?_
 simp only [↓EJ,FY,simprocAttr]
 repeat' ((first | refine Eb (fun h=>?_) (fun h=>?_) | refine Gm (fun h=>?_) (fun h=>?_)) <;> simp only [↓EJ,FY,simprocAttr,h,Bool.not_true,Bool.not_false])
 all_goals
  refine hK _ (Aa [2] ?_);clear hK K
  refine WC.ret ?_
  simp only [↓EJ,FY,simprocAttr,EQ,EF,Tryz.results58]
  refine An (by simp only [CL]) ?_
  simp_all [Ee]

theorem Sl (x:Int):FSem C 53 [.int .u8 x] [] fun r st=>r=.ret (.bool (Fl x))∧st=[]:=by
 refine FSem.en 21 Tryz.func53 ?_
 simp only [Aj]
 refine WC.go ?_
 refine WC.rs fun K hK=>?_
 simp only [↓EJ,FY,simprocAttr]
 repeat' ((first | refine Eb (fun h=>?_) (fun h=>?_) | refine Gm (fun h=>?_) (fun h=>?_)) <;> simp only [↓EJ,FY,simprocAttr,h,Bool.not_true,Bool.not_false])
 all_goals
  refine hK _ (Aa [2] ?_);clear hK K
  refine WC.ret ?_
  simp only [↓EJ,FY,simprocAttr,EQ,EF,Tryz.results53]
  refine An (by simp only [CL]) ?_
  simp_all [Fl] <;> (rw [Bool.eq_iff_iff];simp;omega)

theorem Xl (x:Int):FSem C 61 [.int .u8 x] [] fun r st=>r=.ret (.bool (!decide (x=10)))∧st=[]:=by
 refine FSem.en 5 Tryz.func61 ?_
 simp only [Aj]
 refine WC.go ?_
 refine WC.go ?_
 refine WC.ret ?_
 simp only [↓EJ,FY,simprocAttr,EQ,EF,Tryz.results61]
 exact An (by simp only [CL]) rfl

/-- The reader. -/
def rd (s:List UInt8) (a l c:Int):Blk:=.row [.agg [.str s,.int .i64 a,.int .i64 l,.int .i64 c]] 4 111
theorem B3 (s:List UInt8) (a l c:Int):D8 (rd s a l c):=fun f=>rfl

theorem Z8 (s:List UInt8) (a l c:Int):FSem C 57 [.ptr (.o 0) 0 0] [rd s a l c] fun r st=>r=.ret (.agg [.int .i64 l,.int .i64 c])∧st=[rd s a l c]:=by
 refine FSem.en 12 Tryz.func57 ?_
 simp only [Aj]
 refine WC.go ?_
 refine WC.dg [⟨0,0,false,[]⟩,⟨1,0,false,[]⟩,⟨2,0,false,[]⟩,⟨3,0,false,[]⟩,⟨4,0,false,[]⟩,⟨5,0,false,[]⟩,⟨6,0,false,[]⟩,⟨7,0,false,[]⟩,⟨8,0,false,[]⟩,⟨9,1,false,[]⟩] [0,1,3,7,0,16,48,112,255,511] fun K hK=>?_
 simp only [↓EJ,FY,simprocAttr,rd]
 refine hK _ (Aa [2] ?_);clear hK K
 refine WC.ret ?_
 simp only [↓EJ,FY,simprocAttr,EQ,EF,Tryz.results57]
 exact EndsIn.plain (by simp only [CL,and_self]) (fun k hk=>by simp only [List.mem_singleton] at hk;subst hk;exact B3 s a l c) ⟨rfl,rfl⟩
end Go.LexSem
set_option maxRecDepth 8000
namespace Go.LexSem
open Go Go.V Go.Proofs

/-- The reader k bytes on. -/
def adv (s:List UInt8):Nat→Nat × Nat × Nat→Nat × Nat × Nat
 | 0,p=>p
 | k + 1,(a,l,c)=>adv s k (if gb s a=10 then (a + 1,l + 1,1) else (a + 1,l,c + 1))

theorem Q7 (s:List UInt8) (hs:s.length≤8192) (k a l c:Nat) (hk:a + k≤s.length) (hl:l≤a + 1) (hc:c≤a + 1) :
  FSem C 59 [.ptr (.o 0) 0 0,.int .i64 k] [rd s a l c] fun r st=>r=.ret (.tuple [])∧st=[rd s (adv s k (a,l,c)).1 (adv s k (a,l,c)).2.1 (adv s k (a,l,c)).2.2]:=by
 refine FSem.en 43 Tryz.func59 ?_
 simp only [Aj]
 refine WC.go ?_
 refine WC.b1 ?_
 refine WC.loop (X:=Nat × Nat × Nat × Nat) (fun x=>⟨[(5,.int .i64 (x.1:Nat)),(4,.int .i64 k),(0,.ptr (.o 0) 0 0)],[rd s x.2.1 x.2.2.1 x.2.2.2],[],[]⟩)
  (fun x=>x.1≤k∧x.2.1=a + x.1∧x.2.2.1≤x.2.1 + 1∧x.2.2.2≤x.2.1 + 1∧adv s (k - x.1) (x.2.1,x.2.2.1,x.2.2.2)=adv s k (a,l,c)) (fun x=>k - x.1) (0,a,l,c) [] ⟨by omega,rfl,hl,hc,rfl⟩ ?_ ?_
 ·exact Conv.all (by simp only [EC,simprocAttr,rd])
 ·rintro ⟨i,a',l',c'⟩ ⟨hi,ha,hl',hc',had⟩
  dsimp only at hi ha hl' hc' had ⊢
  subst ha
  refine WC.go ?_
  refine WC.cs (c:=.tmp 6) rfl fun K2 hK2=>⟨fun h=>?_,fun h=>?_⟩
  ·refine WC.skip (hK2 _ ?_)
   have hik:i < k:=by simpa using h
   refine WC.bs fun K2 hK2=>?_
   refine WC.rs fun K hK=>?_
   simp (disch:=omega) only [↓EJ,FY,simprocAttr,w64,Bh,rd]
   refine hK _ (Aa [0,4,5,6,23] ?_);clear hK K
   refine Am fun K3 hK3=>?_
   refine WC.dg [⟨0,0,false,[]⟩,⟨1,0,false,[]⟩,⟨2,0,false,[]⟩,⟨3,0,false,[]⟩,⟨4,0,false,[]⟩,⟨5,0,false,[]⟩,⟨6,0,false,[]⟩,⟨7,0,false,[]⟩,⟨8,0,false,[]⟩,⟨9,0,false,[]⟩] [0,1,3,7,0,16,48,112,255,511] fun K hK=>?_
   simp (disch:=omega) only [↓EJ,FY,simprocAttr,w64,Bh]
   refine ⟨by omega,by omega,?_⟩
   refine hK _ (Aa [0,4,5,6,23] ?_);clear hK K
   refine WC.cond rfl (fun h=>?_) fun h=>?_
   ·have h10:gb s (a + i)=10:=by simpa using h
    refine WC.r1 ?_
    simp (disch:=omega) only [↓EJ,FY,simprocAttr,w64,Bh]
    refine hK3 _ ?_
    refine WC.r1 ?_
    simp (disch:=omega) only [↓EJ,FY,simprocAttr,w64,Bh]
    refine hK2 _ ?_
    refine WC.r1 ?_
    simp (disch:=omega) only [↓EJ,FY,simprocAttr,w64,Bh]
    try simp only [EQ,simprocAttr]
    refine ⟨(i + 1,a + i + 1,l' + 1,1),[],⟨by dsimp only;omega,by dsimp only;omega,by dsimp only;omega,by dsimp only;omega,?_⟩,by dsimp only;omega,?_⟩
    ·rw [←had,show k - i=(k - (i + 1)) + 1 by omega]
     simp only [adv,h10,if_true]
    ·exact Conv.all (by simp only [EC,simprocAttr,rd,Int.natCast_add])
   ·have h10:¬ gb s (a + i)=10:=by simpa using h
    refine WC.skip (hK3 _ ?_)
    refine WC.r1 ?_
    simp (disch:=omega) only [↓EJ,FY,simprocAttr,w64,Bh]
    refine hK2 _ ?_
    refine WC.r1 ?_
    simp (disch:=omega) only [↓EJ,FY,simprocAttr,w64,Bh]
    try simp only [EQ,simprocAttr]
    refine ⟨(i + 1,a + i + 1,l',c' + 1),[],⟨by dsimp only;omega,by dsimp only;omega,by dsimp only;omega,by dsimp only;omega,?_⟩,by dsimp only;omega,?_⟩
    ·rw [←had,show k - i=(k - (i + 1)) + 1 by omega]
     simp only [adv,h10,if_false]
    ·exact Conv.all (by simp only [EC,simprocAttr,rd,Int.natCast_add])
  ·have hik:i=k:=by simp at h;omega
   refine WC.exit ?_
   simp only [EQ,reduceIte,Nat.reduceEqDiff]
   simp only [FnQ,Tryz.results59,E3,tup,List.reverse_nil,true_and]
   subst hik
   rw [Nat.sub_self] at had
   simp only [adv] at had
   rw [←had]
   exact EndsIn.plain (by simp only [CL,and_self]) (fun b hb=>by simp only [List.mem_singleton] at hb;subst hb;exact B3 _ _ _ _) ⟨rfl,rfl⟩
end Go.LexSem
set_option maxRecDepth 8000
namespace Go.LexSem
open Go Go.V Go.Proofs

theorem Rr (s p:List UInt8):FSem C 122 [.str s,.str p] [] fun r st=>r=.ret (.bool (decide (p.length≤s.length) && decide (s.take p.length=p)))∧st=[]:=by
 refine FSem.en 18 Tryz.func122 ?_
 simp only [Aj]
 refine WC.go ?_
 refine WC.rs fun K hK=>?_
 simp only [↓EJ,FY,simprocAttr]
 repeat' ((first | refine Eb (fun h=>?_) (fun h=>?_) | refine Gm (fun h=>?_) (fun h=>?_)) <;> simp only [↓EJ,FY,simprocAttr,h,Bool.not_true,Bool.not_false])
 ·have hl:p.length≤s.length:=by simp at h;omega
  repeat refine And.intro (by omega) ?_
  refine hK _ (Aa [4] ?_);clear hK K
  refine WC.ret ?_
  simp only [↓EJ,FY,simprocAttr,EQ,EF,Tryz.results122]
  refine An (by simp only [CL]) ?_
  simp [hl]
 ·have hl:¬ p.length≤s.length:=by simp at h;omega
  refine hK _ (Aa [4] ?_);clear hK K
  refine WC.ret ?_
  simp only [↓EJ,FY,simprocAttr,EQ,EF,Tryz.results122]
  refine An (by simp only [CL]) ?_
  simp [hl]

theorem So (s p:List UInt8):FSem C 99 [.str s,.str p] [] fun r st=>r=.ret (.bool (decide (p.length≤s.length) && decide (s.take p.length=p)))∧st=[]:=by
 refine FSem.en 8 Tryz.func99 ?_
 simp only [Aj]
 refine WC.go ?_
 refine WC.rs fun K hK=>?_
 simp only [↓EJ,FY,simprocAttr]
 refine Bg (Rr s p) ?_
 simp only [↓EJ,FY,simprocAttr]
 refine hK _ ?_;clear hK K
 refine WC.ret ?_
 simp only [↓EJ,FY,simprocAttr,EQ,EF,Tryz.results99]
 exact An (by simp only [CL]) rfl

/-- A letter, a digit or an underscore: what a word is made of. -/
def Dl (dg:Bool) (x:Int):Bool:=decide (x=95) || ((decide (97≤x) && decide (x≤122)) || ((decide (65≤x) && decide (x≤90)) || (dg && A9 x)))

theorem Aae (dg:Bool) (x:Int):FSem C 94 [.agg [.bool dg],.int .u8 x] [] fun r st=>r=.ret (.bool (Dl dg x))∧st=[]:=by
 refine FSem.en 31 Tryz.func94 ?_
 simp only [Aj]
 refine WC.go ?_
 refine WC.rs fun K hK=>?_
 simp only [↓EJ,FY,simprocAttr]
 repeat' ((first | refine Eb (fun h=>?_) (fun h=>?_) | refine Gm (fun h=>?_) (fun h=>?_) | refine Bg (Ox x) ?_) <;> (try simp only [↓EJ,FY,simprocAttr,h,Bool.not_true,Bool.not_false]))
 all_goals
  refine hK _ (Aa [4] ?_);clear hK K
  refine WC.ret ?_
  simp only [↓EJ,FY,simprocAttr,EQ,EF,Tryz.results94]
  refine An (by simp only [CL]) ?_
  simp_all [Dl,A9] <;> first | omega | (rw [Bool.eq_iff_iff];simp;omega)

/-- Where a run of bytes that p likes ends. -/
def Bs (p:Int→Bool) (s:List UInt8):Nat→Nat→Nat
 | 0,t=>t
 | f + 1,t=>if t < s.length∧p (gb s t)=true then Bs p s f (t + 1) else t
theorem Nm (p:Int→Bool) (s:List UInt8):∀ f t,t≤Bs p s f t
 | 0,t=>Nat.le_refl _
 | f + 1,t=>by
   unfold Bs
   split
   ·exact Nat.le_trans (Nat.le_succ _) (Nm p s f (t + 1))
   ·exact Nat.le_refl _
theorem Gd (p:Int→Bool) (s:List UInt8):∀ f t,t≤s.length→Bs p s f t≤s.length
 | 0,t,h=>h
 | f + 1,t,h=>by
   unfold Bs
   split
   ·rename_i hc;exact Gd p s f (t + 1) hc.1
   ·exact h

theorem Ul (s:List UInt8) (hs:s.length≤8192) (a l c:Nat) (ha:a≤s.length) (g:Nat) (first:List PVal) (hf:ClosedL first) (p:Int→Bool)
  (hp:∀ x,FSem C g (first ++ [.int .u8 x]) [] fun r st=>r=.ret (.bool (p x))∧st=[]) :
  FSem C 60 [.ptr (.o 0) 0 0,.fn (.func g) first []] [rd s a l c] fun r st=>r=.ret (.str ((s.drop a).take (Bs p s (s.length - a) a - a)))∧st=[rd s a l c]:=by
 refine FSem.en 39 Tryz.func60 ?_
 simp only [Aj]
 refine WC.go ?_
 refine WC.rs fun K hK=>?_
 simp only [↓EJ,FY,simprocAttr,rd]
 refine hK _ ?_;clear hK K
 refine WC.bs fun KB hKB=>?_
 refine WC.loop (X:=Nat) (fun t=>⟨[(5,.int .i64 t),(4,.str []),(0,.ptr (.o 0) 0 0),(1,.fn (.func g) first [])],[rd s a l c],[],[]⟩)
  (fun t=>a≤t∧t≤s.length∧Bs p s (s.length - t) t=Bs p s (s.length - a) a) (fun t=>s.length - t) a [] ⟨Nat.le_refl _,ha,rfl⟩ ?_ ?_
 ·exact Conv.all (by simp only [EC,simprocAttr,rd,hf _])
 ·rintro t ⟨h1,h2,h3⟩
  refine Am fun K2 hK2=>?_
  refine WC.rs fun K hK=>?_
  simp only [↓EJ,FY,simprocAttr,rd]
  refine Eb (fun h=>?_) (fun h=>?_)
  ·have hlt:t < s.length:=by simp at h;omega
   simp only [↓EJ,FY,simprocAttr,h]
   repeat refine And.intro (by omega) ?_
   refine CallX.mk (CallW.pure (hp _) (ClosedL.append hf (by simp only [CL,and_self])) (by simp only [CL]) ?_)
   simp only [↓EJ,FY,simprocAttr]
   refine hK _ (Aa [0,1,4,5,26] ?_);clear hK K
   refine WC.cond rfl (fun h=>?_) fun h=>?_
   ·refine WC.skip (hK2 _ ?_)
    refine WC.b1 ?_
    refine WC.r1 ?_
    simp (disch:=omega) only [↓EJ,FY,simprocAttr,w64,Bh]
    try simp only [EQ,simprocAttr]
    refine ⟨t + 1,[],⟨by omega,by omega,?_⟩,by omega,?_⟩
    ·rw [←h3,show s.length - t=(s.length - (t + 1)) + 1 by omega]
     conv=>rhs;unfold Bs
     rw [if_pos ⟨hlt,h⟩]
    ·exact Conv.all (by simp only [EC,simprocAttr,rd,Int.natCast_add,hf _])
   ·refine WC.exit ?_
    simp only [EQ,reduceIte,Nat.reduceEqDiff]
    refine hKB _ ?_;clear hK2 K2 hKB KB
    have hend:Bs p s (s.length - a) a=t:=by
     rw [←h3,show s.length - t=(s.length - (t + 1)) + 1 by omega]
     unfold Bs
     rw [if_neg (by simp [h])]
    refine WC.dg [⟨0,0,false,[]⟩,⟨1,0,false,[]⟩,⟨2,0,false,[]⟩,⟨3,0,false,[]⟩,⟨4,0,false,[]⟩,⟨5,0,false,[]⟩,⟨6,0,false,[]⟩,⟨7,0,false,[]⟩,⟨8,0,false,[]⟩,⟨9,0,false,[]⟩,⟨10,0,false,[]⟩] [0,1,3,7,0,16,48,112,0,511,1023] fun K hK=>?_
    simp only [↓EJ,FY,simprocAttr,rd]
    repeat refine And.intro (by omega) ?_
    refine hK _ (Aa [0,1,4,5] ?_);clear hK K
    refine WC.ret ?_
    simp only [↓EJ,FY,simprocAttr,EQ,EF,Tryz.results60]
    rw [hend]
    exact B5 (by simp only [CL,and_self]) (C0 (fun f=>rfl) Bf) ⟨rfl,rfl⟩
  ·have hge:s.length≤t:=by simp at h;omega
   have hend:Bs p s (s.length - a) a=t:=by
    rw [←h3,show s.length - t=0 by omega];rfl
   simp only [↓EJ,FY,simprocAttr,h,Bool.not_true]
   refine hK _ (Aa [0,1,4,5,26] ?_);clear hK K
   refine WC.cond rfl (fun h=>?_) fun h=>?_
   ·cases h
   ·refine WC.exit ?_
    simp only [EQ,reduceIte,Nat.reduceEqDiff]
    refine hKB _ ?_;clear hK2 K2 hKB KB
    refine WC.dg [⟨0,0,false,[]⟩,⟨1,0,false,[]⟩,⟨2,0,false,[]⟩,⟨3,0,false,[]⟩,⟨4,0,false,[]⟩,⟨5,0,false,[]⟩,⟨6,0,false,[]⟩,⟨7,0,false,[]⟩,⟨8,0,false,[]⟩,⟨9,0,false,[]⟩,⟨10,0,false,[]⟩] [0,1,3,7,0,16,48,112,0,511,1023] fun K hK=>?_
    simp only [↓EJ,FY,simprocAttr,rd]
    repeat refine And.intro (by omega) ?_
    refine hK _ (Aa [0,1,4,5] ?_);clear hK K
    refine WC.ret ?_
    simp only [↓EJ,FY,simprocAttr,EQ,EF,Tryz.results60]
    rw [hend]
    exact B5 (by simp only [CL,and_self]) (C0 (fun f=>rfl) Bf) ⟨rfl,rfl⟩
end Go.LexSem
set_option maxRecDepth 8000
namespace Go.LexSem
open Go Go.V Go.Proofs

/-! ### words in lists -/
def ixF (w:List UInt8):List (List UInt8)→Nat→Int
 | [],_=>-1
 | x::r,k=>if w=x then (k:Int) else ixF w r (k + 1)
theorem Aad (w:List UInt8):∀ (ws:List (List UInt8)) (k:Nat),decide (0≤ixF w ws k)=decide (w∈ws)
 | [],k=>by simp [ixF]
 | x::r,k=>by
   unfold ixF
   by_cases h:w=x
   ·simp [h]
   ·rw [if_neg h,Aad w r (k + 1)];simp [h]
theorem J8 {α:Type} {ws:List α} {i:Nat} (h:i < ws.length):ws.drop i=ws[i]::ws.drop (i + 1):=(List.getElem_cons_drop (h:=h)).symm
theorem gi_map {α:Type} (f:α→PVal) (ws:List α) {i:Nat} (h:i < ws.length):gi (ws.map f) i=f ws[i]:=by
 simp [gi,List.getD_eq_getElem?_getD,h]
theorem Ce (ws:List (List UInt8)):ClosedL (ws.map .str):=ClosedL.map (fun s=>fun _=>rfl) ws

theorem index_sem (ws:List (List UInt8)) (w:List UInt8) (hl:ws.length≤1000):FSem C 120 [.slc (ws.map .str),.str w] [] fun r st=>r=.ret (.int .i64 (ixF w ws 0))∧st=[]:=by
 refine FSem.en 19 Tryz.func120 ?_
 simp only [Aj]
 refine WC.go ?_
 refine Am fun K1 hK1=>?_
 refine WC.go ?_
 refine WC.b1 ?_
 refine WC.loop (X:=Nat) (fun i=>⟨[(8,.int .i64 i),(7,.int .i64 ws.length),(4,.int .i64 0),(0,.slc (ws.map .str)),(1,.str w)],[],[],[]⟩)
  (fun i=>i≤ws.length∧ixF w (ws.drop i) i=ixF w ws 0) (fun i=>ws.length - i) 0 [] ⟨Nat.zero_le _,rfl⟩ ?_ ?_
 ·exact Conv.all (by simp only [EC,simprocAttr,Ce ws _])
 ·rintro i ⟨h1,h2⟩
  refine WC.go ?_
  refine WC.cs (c:=.tmp 9) rfl fun K2 hK2=>⟨fun h=>?_,fun h=>?_⟩
  ·have hlt:i < ws.length:=by simpa using h
   have hg:=gi_map .str ws hlt
   refine WC.skip (hK2 _ ?_)
   refine WC.bs fun K3 hK3=>?_
   refine WC.go ?_
   refine WC.rs fun K hK=>?_
   simp only [↓EJ,FY,simprocAttr,hg,List.length_map]
   repeat refine And.intro (by omega) ?_
   refine hK _ (Aa [0,1,4,5,7,8,9,16] ?_);clear hK K
   refine WC.cond rfl (fun h=>?_) fun h=>?_
   ·have hw:w=ws[i]:=by simpa using h
    refine WC.go ?_
    refine WC.ret ?_
    simp only [↓EJ,FY,simprocAttr,EQ,EF,Tryz.results120]
    refine An (by simp only [CL]) ?_
    rw [←h2,J8 hlt,ixF,if_pos hw]
   ·have hw:¬ w=ws[i]:=by simpa using h
    refine WC.skip (hK3 _ ?_)
    refine WC.r1 ?_
    simp (disch:=omega) only [↓EJ,FY,simprocAttr,w64,Bh]
    try simp only [EQ,simprocAttr]
    refine ⟨i + 1,[],⟨by omega,?_⟩,by omega,?_⟩
    ·rw [←h2,J8 hlt,ixF,if_neg hw]
    ·exact Conv.all (by simp only [EC,simprocAttr,Int.natCast_add,Ce ws _])
  ·have hge:i=ws.length:=by simp at h;omega
   refine WC.exit (hK1 _ ?_)
   refine WC.go ?_
   refine WC.ret ?_
   simp only [↓EJ,FY,simprocAttr,EQ,EF,Tryz.results120]
   refine An (by simp only [CL]) ?_
   rw [←h2,hge,List.drop_length];rfl

theorem Va (ws:List (List UInt8)) (w:List UInt8) (hl:ws.length≤1000):FSem C 95 [.slc (ws.map .str),.str w] [] fun r st=>r=.ret (.bool (decide (w∈ws)))∧st=[]:=by
 refine FSem.en 9 Tryz.func95 ?_
 simp only [Aj]
 refine WC.go ?_
 refine WC.rs fun K hK=>?_
 simp only [↓EJ,FY,simprocAttr]
 refine CallX.mk (CallW.pure (index_sem ws w hl) (by simp only [CL,and_self,Ce]) (by simp only [CL]) ?_)
 simp only [↓EJ,FY,simprocAttr]
 refine hK _ ?_;clear hK K
 refine WC.ret ?_
 simp only [↓EJ,FY,simprocAttr,EQ,EF,Tryz.results95]
 refine An (by simp only [CL]) ?_
 rw [Aad]

/-- The words of the language. -/
def kws:List (List UInt8):=[[112,97,114,97,109],[102,117,110,99],[113,117,101,114,121],[118,97,114],[114,101,116,117,114,110],[98,111,111,108],[105,110,116],[110,97,116],[114,101,97,108],[108,105,115,116],[105,102],[101,108,115,101],[114,101,112,101,97,116],[119,104,105,108,101],[111,98,115,101,114,118,101],[119,101,105,103,104,116],[116,114,117,101],[102,97,108,115,101],[108,101,110],[112,117,115,104],[102,108,105,112],[117,110,105,102,111,114,109],[116,97,98,108,101],[98,105,110,111,109,105,97,108],[103,101,111,109,101,116,114,105,99],[105,110,116,101,114,118,97,108],[98,101,116,97],[112,111,115,116,101,114,105,111,114]]

theorem Xa (w:List UInt8):FSem C 55 [.str w] [] fun r st=>r=.ret (.bool (decide (w∈kws)))∧st=[]:=by
 have hkl:kws.length=28:=rfl
 refine FSem.en 18 Tryz.func55 ?_
 simp only [Aj]
 refine WC.go ?_
 refine WC.go ?_
 refine Am fun K1 hK1=>?_
 refine WC.go ?_
 refine WC.b1 ?_
 refine WC.loop (X:=Nat) (fun i=>⟨[(4,.int .i64 i),(3,.ref (.l 0) 0 28),(2,.bool false),(0,.str w)],[],[.row (kws.map .str) 1 9],[]⟩)
  (fun i=>i≤28∧(w∈kws.drop i↔w∈kws)) (fun i=>28 - i) 0 [0] ⟨Nat.zero_le _,Iff.rfl⟩ ?_ ?_
 ·exact Conv.all (by simp only [EC,simprocAttr,kws])
 ·rintro i ⟨h1,h2⟩
  refine Am fun K2 hK2=>?_
  refine WC.go ?_
  refine WC.cond rfl (fun h=>?_) fun h=>?_
  ·have hlt:i < kws.length:=by rw [hkl];simp at h;omega
   have hg:(kws.map PVal.str)[i]? = some (.str kws[i]):=by simp [hlt]
   refine WC.skip (hK2 _ ?_)
   refine WC.bs fun K3 hK3=>?_
   refine WC.rs fun K hK=>?_
   simp only [↓EJ,FY,simprocAttr,hg]
   repeat refine And.intro (by omega) ?_
   refine hK _ (Aa [0,2,3,4,9,17] ?_);clear hK K
   refine WC.cond rfl (fun h=>?_) fun h=>?_
   ·have hw:kws[i]=w:=by simpa using h
    refine WC.go ?_
    refine WC.ret ?_
    simp only [↓EJ,FY,simprocAttr,EQ,EF,Tryz.results55]
    refine An (by simp only [CL]) ?_
    simp [←hw]
   ·have hw:¬ kws[i]=w:=by simpa using h
    refine WC.skip (hK3 _ ?_)
    refine WC.r1 ?_
    simp (disch:=omega) only [↓EJ,FY,simprocAttr,w64,Bh]
    try simp only [EQ,simprocAttr]
    refine ⟨i + 1,[0],⟨by omega,?_⟩,by omega,?_⟩
    ·rw [←h2,J8 hlt]
     rw [List.mem_cons];exact ⟨fun h=>.inr h,fun h=>h.elim (fun e=>absurd e.symm hw) id⟩
    ·exact Conv.all (by simp only [EC,simprocAttr,Int.natCast_add,Ce kws _])
  ·have hge:i=28:=by simp at h;omega
   refine WC.exit (hK1 _ ?_)
   refine WC.go ?_
   refine WC.ret ?_
   simp only [↓EJ,FY,simprocAttr,EQ,EF,Tryz.results55]
   refine An (by simp only [CL]) ?_
   have:w ∉ kws:=by
    rw [←h2,hge,← hkl,List.drop_length];simp
   simp [this]
end Go.LexSem
set_option maxRecDepth 8000
namespace Go.LexSem
open Go Go.V Go.Proofs

def Cg (x:Int):Bool:=!decide (x=10)
/-- Behind blanks and comments. -/
def Ax (s:List UInt8) (i:Nat):Nat :=
 if h:i < s.length then
  if Ee (gb s i)=true then Ax s (i + 1)
  else if gb s i=35 then Ax s (max (i + 1) (Bs Cg s (s.length - i) i)) else i
 else i
termination_by s.length - i
decreasing_by all_goals omega

theorem Zk (s:List UInt8) (hs:s.length≤8192):FSem C 28 [.str s] [] fun r st=>r=.ret (.int .i64 (Ax s 0))∧st=[]:=by
 refine FSem.en 44 Tryz.func28 ?_
 simp only [Aj]
 refine WC.go ?_
 refine WC.go ?_
 refine WC.bs fun K1 hK1=>?_
 refine WC.loop (X:=Nat) (fun i=>⟨[(3,.int .i64 i),(2,.int .i64 0),(0,.str s)],[],[],[]⟩) (fun i=>i≤s.length∧Ax s i=Ax s 0) (fun i=>s.length - i) 0 [] ⟨Nat.zero_le _,rfl⟩ ?_ ?_
 ·exact Conv.all (by simp only [EC,simprocAttr])
 ·rintro i ⟨h1,h2⟩
  refine Am fun K2 hK2=>?_
  refine WC.go ?_
  refine WC.cond rfl (fun h=>?_) fun h=>?_
  ·have hlt:i < s.length:=by simpa using h
   refine WC.skip (hK2 _ ?_)
   refine WC.b1 ?_
   refine Am fun K3 hK3=>?_
   refine Pr ⟨[(23,.bool (Ee (gb s i))),(3,.int .i64 i),(2,.int .i64 0),(0,.str s)],[],[],[]⟩ ?_ ?_
   ·simp only [↓EJ,FY,simprocAttr]
    repeat refine And.intro (by omega) ?_
    repeat' ((first | refine Eb (fun h=>?_) (fun h=>?_) | refine Gm (fun h=>?_) (fun h=>?_)) <;> (try simp only [↓EJ,FY,simprocAttr,h,Bool.not_true,Bool.not_false]) <;> (repeat refine ⟨by omega,?_⟩))
    all_goals (refine ⟨[],?_⟩)
    ·have hb:Ee (gb s i)=decide (gb s i=10):=by clear hK1 hK3;simp_all [Ee]
     exact Conv.all (by simp only [EC,simprocAttr,hb])
    ·have hb:Ee (gb s i)=true:=by clear hK1 hK3;simp_all [Ee]
     exact Conv.all (by simp only [EC,simprocAttr,hb])
    ·have hb:Ee (gb s i)=true:=by clear hK1 hK3;simp_all [Ee]
     exact Conv.all (by simp only [EC,simprocAttr,hb])
   ·refine WC.cond rfl (fun h=>?_) fun h=>?_
    ·refine WC.rs fun K hK=>?_
     simp (disch:=omega) only [↓EJ,FY,simprocAttr,w64,Bh]
     refine hK _ ?_;clear hK K
     refine WC.exit ?_
     simp only [EQ,reduceIte,Nat.reduceEqDiff]
     try simp only [EQ,simprocAttr]
     refine ⟨i + 1,[],⟨by omega,?_⟩,by omega,?_⟩
     ·rw [←h2]
      conv=>rhs;unfold Ax
      rw [dif_pos hlt,if_pos h]
     ·exact Conv.all (by simp only [EC,simprocAttr,Int.natCast_add])
    ·have hnb:¬ Ee (gb s i)=true:=by simp [h]
     refine WC.skip (hK3 _ ?_)
     refine Am fun K4 hK4=>?_
     refine WC.rs fun K hK=>?_
     simp only [↓EJ,FY,simprocAttr]
     repeat refine And.intro (by omega) ?_
     refine hK _ (Aa [0,2,3,7,23,29,40] ?_);clear hK K
     refine WC.cond rfl (fun h=>?_) fun h=>?_
     ·have hno:¬ gb s i=35:=by simpa using h
      refine WC.go ?_
      refine WC.ret ?_
      simp only [↓EJ,FY,simprocAttr,EQ,EF,Tryz.results28]
      refine An (by simp only [CL]) ?_
      rw [←h2]
      unfold Ax
      rw [dif_pos hlt,if_neg hnb,if_neg hno]
     ·have hno:gb s i=35:=by simpa using h
      refine WC.skip (hK4 _ ?_)
      refine WC.b1 ?_
      refine WC.loop (X:=Nat) (fun t=>⟨[(3,.int .i64 t),(2,.int .i64 0),(0,.str s)],[],[],[]⟩) (fun t=>i≤t∧t≤s.length∧Bs Cg s (s.length - t) t=Bs Cg s (s.length - i) i) (fun t=>s.length - t) i [] ⟨Nat.le_refl _,h1,rfl⟩ ?_ ?_
      ·exact Conv.all (by simp only [EC,simprocAttr])
      ·rintro t ⟨g1,g2,g3⟩
       have hi1:Bs Cg s (s.length - i) i=Bs Cg s (s.length - (i + 1)) (i + 1):=by
        rw [show s.length - i=(s.length - (i + 1)) + 1 by omega]
        conv=>lhs;unfold Bs
        rw [if_pos ⟨hlt,by simp [Cg,hno]⟩]
       have hge1:i + 1≤Bs Cg s (s.length - i) i:=by rw [hi1];exact Nm _ _ _ _
       have fin:Bs Cg s (s.length - t) t=t→Ax s t=Ax s 0:=fun ht=>by
        rw [←h2]
        conv=>rhs;unfold Ax
        rw [dif_pos hlt,if_neg hnb,if_pos hno,← g3,ht,Nat.max_eq_right (by rw [←g3,ht] at hge1;exact hge1)]
       have hti:Bs Cg s (s.length - t) t=t→i < t:=fun ht=>by rw [←g3,ht] at hge1;omega
       refine Am fun K5 hK5=>?_
       refine WC.rs fun K hK=>?_
       simp only [↓EJ,FY,simprocAttr]
       refine Eb (fun h=>?_) (fun h=>?_)
       ·have hlt2:t < s.length:=by simp at h;omega
        simp only [↓EJ,FY,simprocAttr,h]
        repeat refine And.intro (by omega) ?_
        refine hK _ (Aa [0,2,3,7,23,29,40] ?_);clear hK K
        refine WC.cond rfl (fun h=>?_) fun h=>?_
        ·have hnn:Cg (gb s t)=true:=h
         refine WC.skip (hK5 _ ?_)
         refine WC.b1 ?_
         refine WC.r1 ?_
         simp (disch:=omega) only [↓EJ,FY,simprocAttr,w64,Bh]
         try simp only [EQ,simprocAttr]
         refine ⟨t + 1,[],⟨by omega,by omega,?_⟩,by omega,?_⟩
         ·rw [←g3]
          conv=>rhs;rw [show s.length - t=(s.length - (t + 1)) + 1 by omega];unfold Bs
          rw [if_pos ⟨hlt2,hnn⟩]
         ·exact Conv.all (by simp only [EC,simprocAttr,Int.natCast_add])
        ·have hnn:¬ Cg (gb s t)=true:=by simp only [Cg,h];simp
         have ht:Bs Cg s (s.length - t) t=t:=by
          conv=>lhs;rw [show s.length - t=(s.length - (t + 1)) + 1 by omega];unfold Bs
          rw [if_neg (fun h=>hnn h.2)]
         refine WC.exit ?_
         simp only [EQ,reduceIte,Nat.reduceEqDiff]
         try simp only [EQ,simprocAttr]
         have:=hti ht
         refine ⟨t,[],⟨g2,fin ht⟩,by omega,?_⟩
         exact Conv.all (by simp only [EC,simprocAttr])
       ·have hge:s.length≤t:=by simp at h;omega
        have ht:Bs Cg s (s.length - t) t=t:=by rw [show s.length - t=0 by omega];rfl
        simp only [↓EJ,FY,simprocAttr,h,Bool.not_true]
        refine hK _ (Aa [0,2,3,7,23,29,40] ?_);clear hK K
        refine WC.cond rfl (fun h=>?_) fun h=>?_
        ·cases h
        ·refine WC.exit ?_
         simp only [EQ,reduceIte,Nat.reduceEqDiff]
         try simp only [EQ,simprocAttr]
         have:=hti ht
         refine ⟨t,[],⟨g2,fin ht⟩,by omega,?_⟩
         exact Conv.all (by simp only [EC,simprocAttr])
  ·have hge:i=s.length:=by simp at h;omega
   refine WC.exit ?_
   simp only [EQ,reduceIte,Nat.reduceEqDiff]
   refine hK1 _ ?_
   refine WC.go ?_
   refine WC.ret ?_
   simp only [↓EJ,FY,simprocAttr,EQ,EF,Tryz.results28]
   refine An (by simp only [CL]) ?_
   rw [←h2,hge]
   unfold Ax
   rw [dif_neg (Nat.lt_irrefl _)]
end Go.LexSem
set_option maxRecDepth 8000
namespace Go.LexSem
open Go Go.V Go.Proofs

def pl (l c:Nat):PVal:=.agg [.int .i64 l,.int .i64 c]

theorem move_sem (s:List UInt8) (hs:s.length≤8192) (l c:Nat) (hl:l≤100000) (hc:c≤100000) :
  FSem C 29 [pl l c,.str s] [] fun r st=>r=.ret (pl (adv s s.length (0,l,c)).2.1 (adv s s.length (0,l,c)).2.2)∧st=[]:=by
 refine FSem.en 25 Tryz.func29 ?_
 simp only [Aj]
 refine WC.rs fun K hK=>?_
 simp only [↓EJ,FY,simprocAttr,pl]
 refine hK _ ?_;clear hK K
 refine Am fun K1 hK1=>?_
 refine WC.go ?_
 refine WC.b1 ?_
 refine WC.loop (X:=Nat × Nat × Nat) (fun x=>⟨[(5,.int .i64 (x.1:Nat)),(4,.ptr (.l 1) 0 0),(2,.ptr (.l 0) 0 0),(1,.str s)],[],[.row [.agg [.int .i64 (x.2.1:Nat),.int .i64 (x.2.2:Nat)]] 2 38,.row [.agg [.int .i64 0,.int .i64 0]] 2 38],[]⟩)
  (fun x=>x.1≤s.length∧x.2.1≤l + x.1∧x.2.2≤c + x.1 + 1∧adv s (s.length - x.1) (x.1,x.2.1,x.2.2)=adv s s.length (0,l,c)) (fun x=>s.length - x.1) (0,l,c) [0,1] ⟨Nat.zero_le _,Nat.le_refl _,Nat.le_succ _,rfl⟩ ?_ ?_
 ·exact Conv.all (by simp only [EC,simprocAttr])
 ·rintro ⟨i,l',c'⟩ ⟨h1,h2,h3,h4⟩
  dsimp only at h1 h2 h3 h4 ⊢
  refine Am fun K2 hK2=>?_
  refine WC.go ?_
  refine WC.cond rfl (fun h=>?_) fun h=>?_
  ·have hlt:i < s.length:=by simpa using h
   refine WC.skip (hK2 _ ?_)
   refine WC.bs fun K3 hK3=>?_
   refine WC.rs fun K hK=>?_
   simp (disch:=omega) only [↓EJ,FY,simprocAttr,w64,Bh]
   refine hK _ (Aa [0,1,2,4,5,9,19] ?_);clear hK K
   refine WC.rs fun K hK=>?_
   simp only [↓EJ,FY,simprocAttr]
   repeat refine And.intro (by omega) ?_
   refine hK _ ?_;clear hK K
   refine WC.cond rfl (fun h=>?_) fun h=>?_
   ·have h10:gb s i=10:=by simpa using h
    refine WC.r1 ?_
    simp (disch:=omega) only [↓EJ,FY,simprocAttr,w64,Bh]
    refine hK3 _ ?_
    refine WC.r1 ?_
    simp (disch:=omega) only [↓EJ,FY,simprocAttr,w64,Bh]
    try simp only [EQ,simprocAttr]
    refine ⟨(i + 1,l' + 1,1),[0,1],⟨by dsimp only;omega,by dsimp only;omega,by dsimp only;omega,?_⟩,by dsimp only;omega,?_⟩
    ·rw [←h4,show s.length - i=(s.length - (i + 1)) + 1 by omega]
     simp only [adv,h10,if_true]
    ·exact Conv.all (by simp only [EC,simprocAttr,Int.natCast_add])
   ·have h10:¬ gb s i=10:=by simpa using h
    refine WC.skip (hK3 _ ?_)
    refine WC.r1 ?_
    simp (disch:=omega) only [↓EJ,FY,simprocAttr,w64,Bh]
    try simp only [EQ,simprocAttr]
    refine ⟨(i + 1,l',c' + 1),[0,1],⟨by dsimp only;omega,by dsimp only;omega,by dsimp only;omega,?_⟩,by dsimp only;omega,?_⟩
    ·rw [←h4,show s.length - i=(s.length - (i + 1)) + 1 by omega]
     simp only [adv,h10,if_false]
    ·exact Conv.all (by simp only [EC,simprocAttr,Int.natCast_add])
  ·have hge:i=s.length:=by simp at h;omega
   subst hge
   rw [Nat.sub_self] at h4
   simp only [adv] at h4
   refine WC.exit (hK1 _ ?_)
   refine WC.go ?_
   refine WC.ret ?_
   simp only [↓EJ,FY,simprocAttr,EQ,EF,Tryz.results29]
   rw [←h4]
   exact B5 (by simp only [CL,and_self]) Bf ⟨rfl,rfl⟩
end Go.LexSem
set_option maxRecDepth 8000
namespace Go.LexSem
open Go Go.V Go.Proofs

def twos:List (List UInt8):=[[58,61],[61,61],[33,61],[60,61],[62,61],[38,38],[124,124]]
def ones:List UInt8:=[126,60,62,43,45,42,47,40,41,91,93,123,125,44,59,58,63,46,33]
def oneNums:List Int:=ones.map fun b=>(b.toNat:Int)
theorem gb_at {s:List UInt8} {i:Nat} (h:i < s.length):gb s i=(s[i].toNat:Int):=by simp [gb,List.getD_eq_getElem?_getD,h]
theorem gb_ones {i:Nat} (h:i < 19):∃ r,oneNums.drop i=gb ones i::r∧r=oneNums.drop (i + 1):=by
 have h1:i < oneNums.length:=h
 have h2:i < ones.length:=h
 have e:oneNums[i]'h1=gb ones i:=by
  rw [gb_at h2]
  simp only [oneNums,List.getElem_map]
 refine ⟨_,?_,rfl⟩
 rw [←e]
 exact J8 h1
/-- How long the sign is that stands first. -/
def Iz (s:List UInt8):Nat:=if 2≤s.length∧s.take 2∈twos then 2 else if gb s 0∈oneNums then 1 else 0

theorem sign_sem (s:List UInt8) (hs:s.length≤8192) (h0:0 < s.length):FSem C 56 [.str s] [] fun r st=>r=.ret (.int .i64 (Iz s))∧st=[]:=by
 have h2l:twos.length=7:=rfl
 refine FSem.en 36 Tryz.func56 ?_
 simp only [Aj]
 refine WC.go ?_
 refine WC.sj (¬ (2≤s.length∧s.take 2∈twos)) ⟨[(2,.int .i64 0),(0,.str s)],[],[],[]⟩ ?_ fun hnot=>?_
 ·refine WC.go ?_
  refine WC.cond rfl (fun h=>?_) fun h=>?_
  ·have hl2:2≤s.length:=by simp at h;omega
   refine WC.go ?_
   refine WC.go ?_
   refine WC.b1 ?_
   refine WC.loop (X:=Nat) (fun i=>⟨[(4,.int .i64 i),(3,.ref (.l 0) 0 7),(2,.int .i64 0),(0,.str s)],[],[.row (twos.map .str) 1 9],[]⟩)
    (fun i=>i≤7∧(s.take 2∈twos.drop i↔s.take 2∈twos)) (fun i=>7 - i) 0 [0] ⟨Nat.zero_le _,Iff.rfl⟩ ?_ ?_
   ·exact Conv.all (by simp only [EC,simprocAttr,twos])
   ·rintro i ⟨h1,h2⟩
    refine Am fun K2 hK2=>?_
    refine WC.go (Aa [0,2,3,4,5,6,14,23,27,35] ?_)
    refine WC.cond rfl (fun h=>?_) fun h=>?_
    ·have hlt:i < twos.length:=by rw [h2l];simp at h;omega
     have hg:(twos.map PVal.str)[i]? = some (.str twos[i]):=by simp [hlt]
     refine WC.skip (hK2 _ ?_)
     refine WC.bs fun K3 hK3=>?_
     refine WC.dg [⟨0,0,false,[]⟩,⟨1,0,false,[]⟩,⟨2,0,false,[]⟩,⟨3,0,false,[]⟩,⟨4,0,false,[]⟩,⟨5,0,false,[]⟩,⟨6,0,false,[]⟩] [0,1,0,0,12,28,63] fun K hK=>?_
     simp only [↓EJ,FY,simprocAttr,hg]
     repeat refine And.intro (by omega) ?_
     refine hK _ (Aa [0,2,3,4,5,6,14,23,27,35] ?_);clear hK K
     refine WC.cond rfl (fun h=>?_) fun h=>?_
     ·have hw:s.take 2=twos[i]:=by simpa using h
      refine WC.go ?_
      refine WC.ret ?_
      simp only [↓EJ,FY,simprocAttr,EQ,EF,Tryz.results56]
      refine An (by simp only [CL]) ?_
      rw [Iz,if_pos ⟨hl2,by rw [hw];exact List.getElem_mem _⟩];rfl
     ·have hw:¬ s.take 2=twos[i]:=by simpa using h
      refine WC.skip (hK3 _ ?_)
      refine WC.r1 ?_
      simp (disch:=omega) only [↓EJ,FY,simprocAttr,w64,Bh]
      try simp only [EQ,simprocAttr]
      refine ⟨i + 1,[0],⟨by omega,?_⟩,by omega,?_⟩
      ·rw [←h2,J8 hlt,List.mem_cons]
       exact ⟨fun h=>.inr h,fun h=>h.elim (fun e=>absurd e hw) id⟩
      ·exact Conv.all (by simp only [EC,simprocAttr,Int.natCast_add,Ce twos _])
    ·have hge:i=7:=by simp at h;omega
     refine WC.exit ?_
     simp only [EQ,reduceIte,Nat.reduceEqDiff]
     try simp only [EQ,simprocAttr]
     refine ⟨fun hh=>?_,[],?_⟩
     ·have:=h2.2 hh.2
      rw [hge,← h2l,List.drop_length] at this
      cases this
     ·exact Conv.all (by simp only [EC,simprocAttr])
  ·have hl2:¬ 2≤s.length:=by simp at h;omega
   refine WC.skip ?_
   try simp only [EQ,simprocAttr]
   refine ⟨fun hh=>hl2 hh.1,[],?_⟩
   exact Conv.all (by simp only [EC,simprocAttr])
 ·refine WC.go ?_
  refine Am fun K4 hK4=>?_
  refine WC.go ?_
  refine WC.b1 ?_
  refine WC.loop (X:=Nat) (fun i=>⟨[(6,.int .i64 i),(5,.str ones),(2,.int .i64 0),(0,.str s)],[],[],[]⟩)
   (fun i=>i≤19∧(gb s 0∈oneNums.drop i↔gb s 0∈oneNums)) (fun i=>19 - i) 0 [] ⟨Nat.zero_le _,Iff.rfl⟩ ?_ ?_
  ·exact Conv.all (by simp only [EC,simprocAttr,ones])
  ·rintro i ⟨h1,h2⟩
   have h1l:ones.length=19:=rfl
   refine Am fun K5 hK5=>?_
   refine WC.rs fun K hK=>?_
   simp only [↓EJ,FY,simprocAttr,h1l]
   refine hK _ ?_;clear hK K
   refine WC.cond rfl (fun h=>?_) fun h=>?_
   ·have hlt:i < 19:=by simp at h;omega
    obtain ⟨r,hr1,hr2⟩:=gb_ones hlt
    refine WC.skip (hK5 _ ?_)
    refine WC.bs fun K6 hK6=>?_
    refine WC.dg [⟨0,0,false,[]⟩,⟨1,0,false,[]⟩,⟨2,0,false,[]⟩,⟨3,0,false,[]⟩,⟨4,0,false,[]⟩,⟨5,0,false,[]⟩] [0,1,0,0,12,31] fun K hK=>?_
    simp only [↓EJ,FY,simprocAttr,h1l]
    repeat refine And.intro (by omega) ?_
    refine hK _ (Aa [0,2,3,4,5,6,27,35] ?_);clear hK K
    refine WC.cond rfl (fun h=>?_) fun h=>?_
    ·have hw:gb s 0=gb ones i:=by simpa using h
     refine WC.go ?_
     refine WC.ret ?_
     simp only [↓EJ,FY,simprocAttr,EQ,EF,Tryz.results56]
     refine An (by simp only [CL]) ?_
     rw [Iz,if_neg hnot,if_pos (by rw [←h2,hr1,hw];exact List.mem_cons_self)];rfl
    ·have hw:¬ gb s 0=gb ones i:=by simpa using h
     refine WC.skip (hK6 _ ?_)
     refine WC.r1 ?_
     simp (disch:=omega) only [↓EJ,FY,simprocAttr,w64,Bh]
     try simp only [EQ,simprocAttr]
     refine ⟨i + 1,[],⟨by omega,?_⟩,by omega,?_⟩
     ·rw [←h2,hr1,hr2,List.mem_cons]
      exact ⟨fun h=>.inr h,fun h=>h.elim (fun e=>absurd e hw) id⟩
     ·exact Conv.all (by simp only [EC,simprocAttr,Int.natCast_add])
   ·have hge:i=19:=by simp at h;omega
    refine WC.exit (hK4 _ ?_)
    refine WC.go ?_
    refine WC.ret ?_
    simp only [↓EJ,FY,simprocAttr,EQ,EF,Tryz.results56]
    refine An (by simp only [CL]) ?_
    have:gb s 0 ∉ oneNums:=fun hh=>by
     have:=h2.2 hh
     rw [hge] at this
     cases this
    rw [Iz,if_neg hnot,if_neg this];rfl
end Go.LexSem
set_option maxRecDepth 8000
namespace Go.LexSem
open Go Go.V Go.Proofs

/-- Where the word ends that begins at 0. -/
def Ev (s:List UInt8):Nat→Nat→Nat
 | 0,t=>t
 | f + 1,t=>if t < s.length∧(Fl (gb s t) || (decide (0 < t) && A9 (gb s t)))=true then Ev s f (t + 1) else t
theorem Ss (s:List UInt8):∀ f t,t≤s.length→Ev s f t≤s.length
 | 0,t,h=>h
 | f + 1,t,h=>by
   unfold Ev
   split
   ·rename_i hc;exact Ss s f (t + 1) hc.1
   ·exact h
def tk (k:Nat) (t:List UInt8) (l c:Nat):PVal:=.agg [.int .i64 k,.str t,.int .i64 l,.int .i64 c]
/-- The token that stands first: its kind and text; the error. -/
def Ef (s:List UInt8):Nat × List UInt8 × Nat :=
 if 0 < Ev s s.length 0 then
  if s.take (Ev s s.length 0)∈kws then (3,s.take (Ev s s.length 0),0) else if 12 < Ev s s.length 0 then (0,[],9) else (1,s.take (Ev s s.length 0),0)
 else if 60 < Bs A9 s s.length 0 then (0,[],9)
 else if 0 < Bs A9 s s.length 0 then (2,s.take (Bs A9 s s.length 0),0)
 else if Iz s=0 then (0,[],4) else (4,s.take (Iz s),0)
theorem Wb (s:List UInt8) (h:0 < s.length):Iz s≤s.length:=by
 unfold Iz
 split
 ·rename_i hc;exact hc.1
 ·split <;> omega

theorem lnext_sem (s:List UInt8) (hs:s.length≤8192) (h0:0 < s.length):FSem C 30 [.str s] [] fun r st=>r=.ret (.tuple [tk (Ef s).1 (Ef s).2.1 0 0,.int .i64 (Ef s).2.2])∧st=[]:=by
 refine FSem.en 72 Tryz.func30 ?_
 simp only [Aj]
 refine WC.go ?_
 refine WC.go ?_
 refine WC.bs fun K1 hK1=>?_
 refine WC.loop (X:=Nat) (fun i=>⟨[(4,.int .i64 i),(3,.int .i64 0),(2,.ptr (.l 0) 0 0),(0,.str s)],[],[.row [.agg [.int .i64 0,.str [],.int .i64 0,.int .i64 0]] 4 44],[]⟩)
  (fun i=>i≤s.length∧Ev s (s.length - i) i=Ev s s.length 0) (fun i=>s.length - i) 0 [0] ⟨Nat.zero_le _,rfl⟩ ?_ ?_
 ·exact Conv.all (by simp only [EC,simprocAttr])
 ·rintro i ⟨h1,h2⟩
  refine Am fun K2 hK2=>?_
  refine Pr ⟨[(25,.bool (decide (i < s.length) && (Fl (gb s i) || (decide (0 < i) && A9 (gb s i))))),(4,.int .i64 i),(3,.int .i64 0),(2,.ptr (.l 0) 0 0),(0,.str s)],[],[.row [.agg [.int .i64 0,.str [],.int .i64 0,.int .i64 0]] 4 44],[]⟩ ?_ ?_
  ·simp only [↓EJ,FY,simprocAttr]
   repeat' ((first | refine ⟨by first | omega | (clear hK1 hK2;simp_all;done) | (clear hK1 hK2;simp_all;omega),?_⟩ | refine Eb (fun h=>?_) (fun h=>?_) | refine Gm (fun h=>?_) (fun h=>?_) | refine Bg (Sl _) ?_ | refine Bg (No _) ?_) <;> (try simp only [↓EJ,FY,simprocAttr,h,Bool.not_true,Bool.not_false]))
   all_goals
    refine ⟨[0],?_⟩
    refine ⟨by simp,?_,by simp only [↓EJ,FY,simprocAttr,ER],by simp only [↓EJ,FY,simprocAttr,ER,pick],rfl⟩
    simp only [↓EJ,FY,simprocAttr,ER,and_self]
    clear hK1 hK2
    simp_all
    try (intro hh;omega)
  ·refine WC.cond rfl (fun h=>?_) fun h=>?_
   ·have hc:i < s.length∧(Fl (gb s i) || (decide (0 < i) && A9 (gb s i)))=true:=by
     clear hK1 hK2;simpa only [Bool.and_eq_true,decide_eq_true_eq] using h
    refine WC.skip (hK2 _ ?_)
    refine WC.b1 ?_
    refine WC.r1 ?_
    simp (disch:=omega) only [↓EJ,FY,simprocAttr,w64,Bh]
    try simp only [EQ,simprocAttr]
    refine ⟨i + 1,[0],⟨by omega,?_⟩,by omega,?_⟩
    ·rw [←h2,show s.length - i=(s.length - (i + 1)) + 1 by omega]
     conv=>rhs;unfold Ev
     rw [if_pos hc]
    ·exact Conv.all (by simp only [EC,simprocAttr,Int.natCast_add])
   ·have hc:¬ (i < s.length∧(Fl (gb s i) || (decide (0 < i) && A9 (gb s i)))=true):=fun hh=>by
     rw [show decide (i < s.length)=true from by simpa using hh.1,hh.2] at h;cases h
    have hw:Ev s s.length 0=i:=by
     rw [←h2]
     cases hk:s.length - i with
     | zero=>rfl
     | succ k=>unfold Ev;rw [if_neg hc]
    refine WC.exit ?_
    simp only [EQ,reduceIte,Nat.reduceEqDiff]
    refine hK1 _ ?_
    clear hK2 K2
    refine Am fun K3 hK3=>?_
    refine WC.go ?_
    refine WC.cond rfl (fun h=>?_) fun h=>?_
    ·have hpos:0 < i:=by simp at h;omega
     refine WC.rs fun K hK=>?_
     simp only [↓EJ,FY,simprocAttr]
     repeat refine And.intro (by omega) ?_
     refine hK _ (Aa [0,2,3,4,5,25,36,39,51,55,58,66] ?_);clear hK K
     refine Am fun K4 hK4=>?_
     refine WC.rs fun K hK=>?_
     simp only [↓EJ,FY,simprocAttr]
     refine Bg (Xa (s.take i)) ?_
     simp only [↓EJ,FY,simprocAttr]
     refine hK _ ?_;clear hK K
     refine WC.cond rfl (fun h=>?_) fun h=>?_
     ·have hkw:s.take i∈kws:=by simpa using h
      refine WC.r1 ?_
      simp only [↓EJ,FY,simprocAttr]
      refine hK4 _ ?_
      refine WC.go ?_
      refine WC.ret ?_
      simp only [↓EJ,FY,simprocAttr,EQ,EF,Tryz.results30]
      refine B5 (by simp only [CL,and_self]) Bf ⟨?_,rfl⟩
      rw [Ef,hw,if_pos hpos,if_pos hkw];rfl
     ·have hkw:¬ s.take i∈kws:=by simpa using h
      refine WC.go ?_
      refine WC.cond rfl (fun h=>?_) fun h=>?_
      ·have h12:12 < i:=by simp at h;omega
       refine WC.go (Aa [0,2,3,4,5,25,51,55,58,66] ?_)
       refine WC.ret ?_
       simp only [↓EJ,FY,simprocAttr,EQ,EF,Tryz.results30]
       refine B5 (by simp only [CL,and_self]) Bf ⟨?_,rfl⟩
       rw [Ef,hw,if_pos hpos,if_neg hkw,if_pos h12];rfl
      ·have h12:¬ 12 < i:=by simp at h;omega
       refine WC.skip (hK4 _ ?_)
       refine WC.go ?_
       refine WC.ret ?_
       simp only [↓EJ,FY,simprocAttr,EQ,EF,Tryz.results30]
       refine B5 (by simp only [CL,and_self]) Bf ⟨?_,rfl⟩
       rw [Ef,hw,if_pos hpos,if_neg hkw,if_neg h12];rfl
    ·have hz:i=0:=by simp at h;omega
     subst hz
     refine WC.skip (hK3 _ ?_)
     refine WC.bs fun K5 hK5=>?_
     refine WC.loop (X:=Nat) (fun i=>⟨[(4,.int .i64 i),(3,.int .i64 0),(2,.ptr (.l 0) 0 0),(0,.str s)],[],[.row [.agg [.int .i64 0,.str [],.int .i64 0,.int .i64 0]] 4 44],[]⟩)
      (fun i=>i≤s.length∧Bs A9 s (s.length - i) i=Bs A9 s s.length 0) (fun i=>s.length - i) 0 [0] ⟨Nat.zero_le _,rfl⟩ ?_ ?_
     ·exact Conv.all (by simp only [EC,simprocAttr])
     ·rintro j ⟨g1,g2⟩
      refine Am fun K6 hK6=>?_
      refine Pr ⟨[(51,.bool (decide (j < s.length) && A9 (gb s j))),(4,.int .i64 j),(3,.int .i64 0),(2,.ptr (.l 0) 0 0),(0,.str s)],[],[.row [.agg [.int .i64 0,.str [],.int .i64 0,.int .i64 0]] 4 44],[]⟩ ?_ ?_
      ·simp only [↓EJ,FY,simprocAttr]
       repeat' ((first | refine ⟨by first | omega | (clear hK1 hK5 hK6;simp_all;done) | (clear hK1 hK5 hK6;simp_all;omega),?_⟩ | refine Eb (fun h=>?_) (fun h=>?_) | refine Gm (fun h=>?_) (fun h=>?_) | refine Bg (No _) ?_) <;> (try simp only [↓EJ,FY,simprocAttr,h,Bool.not_true,Bool.not_false]))
       all_goals
        refine ⟨[0],?_⟩
        refine ⟨by simp,?_,by simp only [↓EJ,FY,simprocAttr,ER],by simp only [↓EJ,FY,simprocAttr,ER,pick],rfl⟩
        simp only [↓EJ,FY,simprocAttr,ER,and_self]
        clear hK1 hK5 hK6
        simp_all
        try (intro hh;omega)
      ·refine WC.cond rfl (fun h=>?_) fun h=>?_
       ·have hc:j < s.length∧A9 (gb s j)=true:=by
         clear hK1 hK5 hK6;simpa only [Bool.and_eq_true,decide_eq_true_eq] using h
        refine WC.skip (hK6 _ ?_)
        refine WC.b1 ?_
        refine WC.r1 ?_
        simp (disch:=omega) only [↓EJ,FY,simprocAttr,w64,Bh]
        try simp only [EQ,simprocAttr]
        refine ⟨j + 1,[0],⟨by omega,?_⟩,by omega,?_⟩
        ·rw [←g2,show s.length - j=(s.length - (j + 1)) + 1 by omega]
         conv=>rhs;unfold Bs
         rw [if_pos hc]
        ·exact Conv.all (by simp only [EC,simprocAttr,Int.natCast_add])
       ·have hc:¬ (j < s.length∧A9 (gb s j)=true):=fun hh=>by
         rw [show decide (j < s.length)=true from by simpa using hh.1,hh.2] at h;cases h
        have hd:Bs A9 s s.length 0=j:=by
         rw [←g2]
         cases hk:s.length - j with
         | zero=>rfl
         | succ k=>unfold Bs;rw [if_neg hc]
        have hnw:¬ 0 < Ev s s.length 0:=by omega
        refine WC.exit ?_
        simp only [EQ,reduceIte,Nat.reduceEqDiff]
        refine hK5 _ ?_
        clear hK6 K6
        refine Am fun K7 hK7=>?_
        refine WC.go ?_
        refine WC.cond rfl (fun h=>?_) fun h=>?_
        ·have h60:60 < j:=by simp at h;omega
         refine WC.go ?_
         refine WC.ret ?_
         simp only [↓EJ,FY,simprocAttr,EQ,EF,Tryz.results30]
         refine B5 (by simp only [CL,and_self]) Bf ⟨?_,rfl⟩
         rw [Ef,if_neg hnw,hd,if_pos h60];rfl
        ·have h60:¬ 60 < j:=by simp at h;omega
         refine WC.skip (hK7 _ ?_)
         refine Am fun K8 hK8=>?_
         refine WC.go ?_
         refine WC.cond rfl (fun h=>?_) fun h=>?_
         ·have hpj:0 < j:=by simp at h;omega
          refine WC.rs fun K hK=>?_
          simp only [↓EJ,FY,simprocAttr]
          repeat refine And.intro (by omega) ?_
          refine hK _ (Aa [0,2,3,4,25,51,66] ?_);clear hK K
          refine WC.ret ?_
          simp only [↓EJ,FY,simprocAttr,EQ,EF,Tryz.results30]
          refine B5 (by simp only [CL,and_self]) Bf ⟨?_,rfl⟩
          rw [Ef,if_neg hnw,hd,if_neg h60,if_pos hpj];rfl
         ·have hpj:¬ 0 < j:=by simp at h;omega
          refine WC.skip (hK8 _ ?_)
          refine WC.rs fun K hK=>?_
          simp only [↓EJ,FY,simprocAttr]
          refine Bg (sign_sem s hs h0) ?_
          simp only [↓EJ,FY,simprocAttr]
          refine hK _ ?_;clear hK K
          refine Am fun K9 hK9=>?_
          refine WC.go ?_
          refine WC.cond rfl (fun h=>?_) fun h=>?_
          ·have hg:Iz s=0:=by simp at h;omega
           refine WC.go ?_
           refine WC.ret ?_
           simp only [↓EJ,FY,simprocAttr,EQ,EF,Tryz.results30]
           refine B5 (by simp only [CL,and_self]) Bf ⟨?_,rfl⟩
           rw [Ef,if_neg hnw,hd,if_neg h60,if_neg hpj,if_pos hg];rfl
          ·have hg:¬ Iz s=0:=by simp at h;omega
           have hle:=Wb s h0
           refine WC.skip (hK9 _ ?_)
           refine WC.rs fun K hK=>?_
           simp only [↓EJ,FY,simprocAttr]
           repeat refine And.intro (by omega) ?_
           refine hK _ (Aa [0,2,3,4,25,51] ?_);clear hK K
           refine WC.ret ?_
           simp only [↓EJ,FY,simprocAttr,EQ,EF,Tryz.results30]
           refine B5 (by simp only [CL,and_self]) Bf ⟨?_,rfl⟩
           rw [Ef,if_neg hnw,hd,if_neg h60,if_neg hpj,if_neg hg];rfl
end Go.LexSem
set_option maxRecDepth 8000
namespace Go.LexSem
open Go Go.V Go.Proofs

def sgs:List (List UInt8):=[[58,61],[61,61],[33,61],[60,61],[62,61],[38,38],[124,124],[126],[60],[62],[43],[45],[42],[47],[40],[41],[91],[93],[123],[125],[44],[59],[58],[63],[46],[33]]
/-- The first of the signs that stands at the front. -/
def El (s:List UInt8):List (List UInt8)→Option (List UInt8)
 | []=>none
 | x::r=>if x.length≤s.length∧s.take x.length=x then some x else El s r
def Ci (p:Int→Bool) (s:List UInt8) (a:Nat):List UInt8:=(s.drop a).take (Bs p s (s.length - a) a - a)
/-- The token at a: its kind and text; the error. -/
def Bd (s:List UInt8) (a:Nat):Nat × List UInt8 × Nat :=
 if Dl false (gb s a)=true then
  if Ci (Dl true) s a∈kws then (3,Ci (Dl true) s a,0) else if 12 < (Ci (Dl true) s a).length then (0,[],9) else (1,Ci (Dl true) s a,0)
 else if A9 (gb s a)=true then if 60 < (Ci A9 s a).length then (0,[],9) else (2,Ci A9 s a,0)
 else match El (s.drop a) sgs with
  | some x=>(4,x,0)
  | none=>(0,[],4)

theorem Aa6 (hkw:FSem C 96 [] [] fun r st=>r=.ret (.slc (kws.map .str))∧st=[]) (hsg:FSem C 98 [] [] fun r st=>r=.ret (.slc (sgs.map .str))∧st=[])
  (s:List UInt8) (hs:s.length≤8192) (a l c:Nat) (ha:a < s.length) :
  FSem C 62 [.ptr (.o 0) 0 0] [rd s a l c] fun r st=>r=.ret (.tuple [.int .i64 (Bd s a).1,.str (Bd s a).2.1,.int .i64 (Bd s a).2.2])∧st=[rd s a l c]:=by
 refine FSem.en 68 Tryz.func62 ?_
 simp only [Aj]
 refine WC.go ?_
 refine WC.go ?_
 refine WC.dg [⟨0,0,false,[]⟩,⟨1,0,false,[]⟩,⟨2,0,false,[]⟩,⟨3,0,false,[]⟩,⟨4,0,false,[]⟩,⟨5,0,false,[]⟩,⟨6,0,false,[]⟩,⟨7,0,false,[]⟩,⟨8,0,false,[]⟩,⟨9,0,false,[]⟩] [0,1,3,7,0,16,48,112,255,511] fun K hK=>?_
 simp only [↓EJ,FY,simprocAttr,rd]
 repeat refine And.intro (by omega) ?_
 refine hK _ (Aa [0,2,3,4,5,6,7,8,9,11,25,34,38,40,47,49,50,51,52,65] ?_);clear hK K
 refine WC.bs fun K1 hK1=>?_
 refine WC.rs fun K hK=>?_
 simp only [↓EJ,FY,simprocAttr]
 refine Bg (Aae false _) ?_
 simp only [↓EJ,FY,simprocAttr]
 refine hK _ ?_;clear hK K
 refine WC.cond rfl (fun h=>?_) fun h=>?_
 ·have hw:Dl false (gb s a)=true:=h
  refine WC.rs fun K hK=>?_
  simp only [↓EJ,FY,simprocAttr]
  refine CallX.mk (CallW.one (r:=.o 0) (Ul s hs a l c (Nat.le_of_lt ha) 94 [.agg [.bool true]] (by simp only [CL,and_self]) (Dl true) (fun x=>Aae true x)) rfl (B3 _ _ _ _) (B3 _ _ _ _) (by simp only [CL]) (by simp [Ba,ren,A4]) ?_)
  simp only [↓EJ,FY,simprocAttr,rd]
  refine hK _ (Aa [0,2,3,4,7,8,9,11,34,38,40,47,49,50,51,52,65] ?_);clear hK K
  rw [show (s.drop a).take (Bs (Dl true) s (s.length - a) a - a)=Ci (Dl true) s a from rfl]
  generalize hr:Ci (Dl true) s a=w
  have hwl:w.length≤s.length:=by
   rw [←hr,Ci,List.length_take,List.length_drop];omega
  refine Am fun K2 hK2=>?_
  refine WC.rs fun K hK=>?_
  simp only [↓EJ,FY,simprocAttr]
  refine CallX.mk (CallW.pure hkw (by simp only [CL]) (by simp only [CL,Ce]) ?_)
  simp only [↓EJ,FY,simprocAttr]
  refine CallX.mk (CallW.pure (Va kws w (by decide)) (by simp only [CL,and_self,Ce]) (by simp only [CL]) ?_)
  simp only [↓EJ,FY,simprocAttr]
  refine hK _ ?_;clear hK K
  refine WC.cond rfl (fun h=>?_) fun h=>?_
  ·have hk:w∈kws:=by simpa using h
   refine WC.go ?_
   refine WC.ret ?_
   simp only [↓EJ,FY,simprocAttr,EQ,EF,Tryz.results62]
   refine B5 (by simp only [CL,and_self]) (C0 (fun f=>rfl) Bf) ⟨?_,rfl⟩
   rw [Bd,if_pos hw,hr,if_pos hk];rfl
  ·have hk:¬ w∈kws:=by simpa using h
   refine WC.skip (hK2 _ ?_)
   refine Am fun K3 hK3=>?_
   refine WC.go (Aa [0,2,3,4,7,8,9,11,38,40,47,49,50,51,52,65] ?_)
   refine WC.cond rfl (fun h=>?_) fun h=>?_
   ·have h12:12 < w.length:=by simp at h;omega
    refine WC.go ?_
    refine WC.ret ?_
    simp only [↓EJ,FY,simprocAttr,EQ,EF,Tryz.results62]
    refine B5 (by simp only [CL,and_self]) (C0 (fun f=>rfl) Bf) ⟨?_,rfl⟩
    rw [Bd,if_pos hw,hr,if_neg hk,if_pos h12];rfl
   ·have h12:¬ 12 < w.length:=by simp at h;omega
    refine WC.skip (hK3 _ ?_)
    refine WC.go ?_
    refine WC.ret ?_
    simp only [↓EJ,FY,simprocAttr,EQ,EF,Tryz.results62]
    refine B5 (by simp only [CL,and_self]) (C0 (fun f=>rfl) Bf) ⟨?_,rfl⟩
    rw [Bd,if_pos hw,hr,if_neg hk,if_neg h12];rfl
 ·have hw:¬ Dl false (gb s a)=true:=by simp [h]
  refine WC.rs fun K hK=>?_
  simp only [↓EJ,FY,simprocAttr]
  refine Bg (Ox _) ?_
  simp only [↓EJ,FY,simprocAttr]
  refine hK _ ?_;clear hK K
  refine WC.cond rfl (fun h=>?_) fun h=>?_
  ·have hd:A9 (gb s a)=true:=h
   refine WC.rs fun K hK=>?_
   simp only [↓EJ,FY,simprocAttr]
   refine CallX.mk (CallW.one (r:=.o 0) (Ul s hs a l c (Nat.le_of_lt ha) 97 [] (by simp only [CL]) A9 (fun x=>Ox x)) rfl (B3 _ _ _ _) (B3 _ _ _ _) (by simp only [CL]) (by simp [Ba,ren,A4]) ?_)
   simp only [↓EJ,FY,simprocAttr,rd]
   refine hK _ (Aa [0,2,3,4,9,11,47,49,50,51,52,65] ?_);clear hK K
   rw [show (s.drop a).take (Bs A9 s (s.length - a) a - a)=Ci A9 s a from rfl]
   generalize hr:Ci A9 s a=w
   have hwl:w.length≤s.length:=by
    rw [←hr,Ci,List.length_take,List.length_drop];omega
   refine Am fun K4 hK4=>?_
   refine WC.go ?_
   refine WC.cond rfl (fun h=>?_) fun h=>?_
   ·have h60:60 < w.length:=by simp at h;omega
    refine WC.go ?_
    refine WC.ret ?_
    simp only [↓EJ,FY,simprocAttr,EQ,EF,Tryz.results62]
    refine B5 (by simp only [CL,and_self]) (C0 (fun f=>rfl) Bf) ⟨?_,rfl⟩
    rw [Bd,if_neg hw,if_pos hd,hr,if_pos h60];rfl
   ·have h60:¬ 60 < w.length:=by simp at h;omega
    refine WC.skip (hK4 _ ?_)
    refine WC.go ?_
    refine WC.ret ?_
    simp only [↓EJ,FY,simprocAttr,EQ,EF,Tryz.results62]
    refine B5 (by simp only [CL,and_self]) (C0 (fun f=>rfl) Bf) ⟨?_,rfl⟩
    rw [Bd,if_neg hw,if_pos hd,hr,if_neg h60];rfl
  ·have hd:¬ A9 (gb s a)=true:=by simp [h]
   refine WC.skip (hK1 _ ?_)
   refine Am fun K5 hK5=>?_
   refine WC.rs fun K hK=>?_
   simp only [↓EJ,FY,simprocAttr]
   refine CallX.mk (CallW.pure hsg (by simp only [CL]) (by simp only [CL,Ce]) ?_)
   simp only [↓EJ,FY,simprocAttr,List.length_map]
   refine hK _ ?_;clear hK K
   refine WC.b1 ?_
   have hsl:sgs.length=26:=rfl
   refine WC.loop (X:=Nat) (fun i=>⟨[(51,.int .i64 i),(50,.int .i64 sgs.length),(49,.slc (sgs.map .str)),(4,.int .i64 0),(3,.str []),(2,.int .i64 0),(0,.ptr (.o 0) 0 0)],[rd s a l c],[],[]⟩)
    (fun i=>i≤26∧El (s.drop a) (sgs.drop i)=El (s.drop a) sgs) (fun i=>26 - i) 0 [] ⟨Nat.zero_le _,rfl⟩ ?_ ?_
   ·exact Conv.all (by simp only [EC,simprocAttr,rd,Ce sgs _])
   ·rintro i ⟨h1,h2⟩
    refine WC.go ?_
    refine WC.cs (c:=.tmp 52) rfl fun K6 hK6=>⟨fun h=>?_,fun h=>?_⟩
    ·have hlt:i < sgs.length:=by rw [hsl];simp at h;omega
     have hg:=gi_map .str sgs hlt
     refine WC.skip (hK6 _ ?_)
     refine WC.bs fun K7 hK7=>?_
     refine WC.rs fun K hK=>?_
     simp only [↓EJ,FY,simprocAttr,hg,List.length_map]
     repeat refine And.intro (by omega) ?_
     refine hK _ (Aa [0,2,3,4,11,49,50,51,52,65] ?_);clear hK K
     have htk:(s.drop a).take (s.length - a)=s.drop a:=List.take_of_length_le (by simp)
     refine WC.dg [⟨0,0,false,[]⟩,⟨1,0,false,[]⟩,⟨2,0,false,[]⟩,⟨3,0,false,[]⟩,⟨4,0,false,[]⟩,⟨5,0,false,[]⟩,⟨6,0,false,[]⟩,⟨7,0,false,[]⟩,⟨8,0,false,[]⟩,⟨9,0,false,[]⟩,⟨10,1,false,[]⟩] [0,1,3,7,0,16,48,112,255,0,1023] fun K hK=>?_
     simp only [↓EJ,FY,simprocAttr,rd,htk]
     repeat refine And.intro (by omega) ?_
     refine Bg (So (s.drop a) sgs[i]) ?_
     simp only [↓EJ,FY,simprocAttr]
     refine hK _ (Aa [0,2,3,4,11,49,50,51,52,65] ?_);clear hK K
     refine WC.cond rfl (fun h=>?_) fun h=>?_
     ·have hp:sgs[i].length≤(s.drop a).length∧(s.drop a).take sgs[i].length=sgs[i]:=by simpa using h
      refine WC.go ?_
      refine WC.ret ?_
      simp only [↓EJ,FY,simprocAttr,EQ,EF,Tryz.results62]
      refine B5 (by simp only [CL,and_self]) (C0 (fun f=>rfl) Bf) ⟨?_,rfl⟩
      rw [Bd,if_neg hw,if_neg hd,← h2,J8 hlt,El,if_pos hp];rfl
     ·have hp:¬ (sgs[i].length≤(s.drop a).length∧(s.drop a).take sgs[i].length=sgs[i]):=by
       intro hh
       simp only [hh.1,hh.2] at h
       simp at h
      refine WC.skip (hK7 _ ?_)
      refine WC.r1 ?_
      simp (disch:=omega) only [↓EJ,FY,simprocAttr,w64,Bh]
      try simp only [EQ,simprocAttr]
      refine ⟨i + 1,[],⟨by omega,?_⟩,by omega,?_⟩
      ·rw [←h2,J8 hlt,El,if_neg hp]
      ·exact Conv.all (by simp only [EC,simprocAttr,rd,Int.natCast_add,Ce sgs _])
    ·have hge:i=26:=by simp [hsl] at h;omega
     refine WC.exit (hK5 _ ?_)
     refine WC.go ?_
     refine WC.ret ?_
     simp only [↓EJ,FY,simprocAttr,EQ,EF,Tryz.results62]
     refine B5 (by simp only [CL,and_self]) (C0 (fun f=>rfl) Bf) ⟨?_,rfl⟩
     have hn:El (s.drop a) sgs=none:=by rw [←h2,hge,← hsl,List.drop_length];rfl
     rw [Bd,if_neg hw,if_neg hd,hn];rfl
end Go.LexSem
set_option maxRecDepth 8000
namespace Go.LexSem
open Go Go.V Go.Proofs

/-! ### how far a step goes -/
theorem Dk (s:List UInt8):∀ k a l c,(adv s k (a,l,c)).1=a + k
 | 0,a,l,c=>rfl
 | k + 1,a,l,c=>by
   unfold adv
   split
   ·rw [Dk s k];omega
   ·rw [Dk s k];omega
theorem Lr (s:List UInt8):∀ k a l c,l≤a + 1→c≤a + 1→(adv s k (a,l,c)).2.1≤a + k + 1∧(adv s k (a,l,c)).2.2≤a + k + 1
 | 0,a,l,c,h1,h2=>⟨h1,h2⟩
 | k + 1,a,l,c,h1,h2=>by
   unfold adv
   split
   ·have:=Lr s k (a + 1) (l + 1) 1 (by omega) (by omega);omega
   ·have:=Lr s k (a + 1) l (c + 1) (by omega) (by omega);omega
theorem H6 {p:Int→Bool} {s:List UInt8} {a:Nat} (h:a < s.length) (hp:p (gb s a)=true):a + 1≤Bs p s (s.length - a) a:=by
 rw [show s.length - a=(s.length - (a + 1)) + 1 by omega]
 unfold Bs
 rw [if_pos ⟨h,hp⟩]
 exact Nm _ _ _ _
theorem Fi {p:Int→Bool} {s:List UInt8} {a:Nat} (h:a≤s.length):a + (Ci p s a).length=Bs p s (s.length - a) a:=by
 have h1:=Gd p s (s.length - a) a h
 have h2:=Nm p s (s.length - a) a
 rw [Ci,List.length_take,List.length_drop];omega
theorem Ky (s:List UInt8):∀ (xs:List (List UInt8)) x,El s xs=some x→x∈xs∧x.length≤s.length∧s.take x.length=x
 | [],x,h=>by cases h
 | y::r,x,h=>by
   unfold El at h
   split at h
   ·rename_i hc;cases h;exact ⟨List.mem_cons_self,hc⟩
   ·obtain ⟨h1,h2⟩:=Ky s r x h;exact ⟨List.mem_cons_of_mem _ h1,h2⟩
theorem sgs_pos:∀ x∈sgs,0 < x.length:=by decide
theorem Xu {x:Int} (h:Dl false x=true):Dl true x=true:=by
 simp only [Dl,Bool.or_eq_true,Bool.and_eq_true,decide_eq_true_eq,Bool.false_and,Bool.false_eq_true,or_false,Bool.true_and] at h ⊢
 rcases h with h | h | h
 ·exact .inl h
 ·exact .inr (.inl h)
 ·exact .inr (.inr (.inl h))
/-- A token has a byte at least, and lies within the text. -/
theorem Mo (s:List UInt8) (a:Nat) (ha:a < s.length) (h:(Bd s a).2.2=0):0 < (Bd s a).2.1.length∧a + (Bd s a).2.1.length≤s.length:=by
 unfold Bd at h ⊢
 split
 ·rename_i hw
  rw [if_pos hw] at h
  have h1:=H6 ha (Xu hw)
  have h2:=Fi (p:=Dl true) (Nat.le_of_lt ha)
  have h3:=Gd (Dl true) s (s.length - a) a (Nat.le_of_lt ha)
  split
  ·exact ⟨by show 0 < (Ci (Dl true) s a).length;omega,by show a + (Ci (Dl true) s a).length≤_;omega⟩
  ·rename_i hk
   rw [if_neg hk] at h
   split
   ·rename_i h12;rw [if_pos h12] at h;cases h
   ·exact ⟨by show 0 < (Ci (Dl true) s a).length;omega,by show a + (Ci (Dl true) s a).length≤_;omega⟩
 ·rename_i hw
  rw [if_neg hw] at h
  split
  ·rename_i hd
   rw [if_pos hd] at h
   have h1:=H6 ha hd
   have h2:=Fi (p:=A9) (Nat.le_of_lt ha)
   have h3:=Gd A9 s (s.length - a) a (Nat.le_of_lt ha)
   split
   ·rename_i h60;rw [if_pos h60] at h;cases h
   ·exact ⟨by show 0 < (Ci A9 s a).length;omega,by show a + (Ci A9 s a).length≤_;omega⟩
  ·rename_i hd
   rw [if_neg hd] at h
   cases hs:El (s.drop a) sgs with
   | none=>rw [hs] at h;cases h
   | some x =>
     obtain ⟨h1,h2,_⟩:=Ky _ _ _ hs
     rw [List.length_drop] at h2
     exact ⟨sgs_pos x h1,by show a + x.length≤_;omega⟩

abbrev Tok:=Nat × List UInt8 × Nat × Nat
def tkv (t:Tok):PVal:=tk t.1 t.2.1 t.2.2.1 t.2.2.2
/-- The lexer from the byte a on, at line l and column c, behind the tokens acc. -/
def Gv (s:List UInt8) (a l c:Nat) (acc:List Tok):List Tok × (Nat × Nat) × Nat :=
 if h:a < s.length then
  if Ee (gb s a)=true then
   Gv s (a + 1) (adv s 1 (a,l,c)).2.1 (adv s 1 (a,l,c)).2.2 acc
  else if gb s a=35 then
   Gv s (max (a + 1) (adv s (Ci Cg s a).length (a,l,c)).1) (adv s (Ci Cg s a).length (a,l,c)).2.1 (adv s (Ci Cg s a).length (a,l,c)).2.2 acc
  else if (Bd s a).2.2=0 then
   Gv s (max (a + 1) (adv s (Bd s a).2.1.length (a,l,c)).1) (adv s (Bd s a).2.1.length (a,l,c)).2.1 (adv s (Bd s a).2.1.length (a,l,c)).2.2 (acc ++ [((Bd s a).1,(Bd s a).2.1,l,c)])
  else ([],(l,c),(Bd s a).2.2)
 else (acc ++ [(5,[],l,c)],(0,0),0)
termination_by s.length - a
decreasing_by all_goals omega
end Go.LexSem
set_option maxRecDepth 8000
namespace Go.LexSem
open Go Go.V Go.Proofs

def V5 (ts:List Tok):PVal:=match ts with
 | []=>.nils
 | t::r=>.slc ((t::r).map tkv)
def Bx (s:List UInt8):List Tok × (Nat × Nat) × Nat:=if 8192 < s.length then ([],(1,1),9) else Gv s 0 1 1 []
theorem Cb (ts:List Tok):ClosedL (ts.map tkv):=ClosedL.map (fun t=>fun _=>rfl) ts

theorem Pb (f:Ref→Ref) (a b:List PVal):Ba f (a ++ b)=Ba f a ++ Ba f b:=by rw [Bw,Bw,Bw,List.map_append]
theorem O8 (acc:List Tok) (t:Tok):V5 (acc ++ [t])=.slc ((acc ++ [t]).map tkv):=by
 cases acc <;> rfl

theorem X7 (hkw:FSem C 96 [] [] fun r st=>r=.ret (.slc (kws.map .str))∧st=[]) (hsg:FSem C 98 [] [] fun r st=>r=.ret (.slc (sgs.map .str))∧st=[]) (s:List UInt8) :
  FSem C 37 [.str s] [] fun r st=>r=.ret (.tuple [V5 (Bx s).1,pl (Bx s).2.1.1 (Bx s).2.1.2,.int .i64 (Bx s).2.2])∧st=[]:=by
 refine FSem.en 90 Tryz.func37 ?_
 simp only [Aj]
 refine WC.go ?_
 refine WC.scope ?_
 refine WC.go ?_
 refine Am fun K1 hK1=>?_
 refine WC.go ?_
 refine WC.cond rfl (fun h=>?_) fun h=>?_
 ·have h8:8192 < s.length:=by simp at h;omega
  refine WC.rs fun K hK=>?_
  simp only [↓EJ,FY,simprocAttr]
  refine CallX.mk (CallW.one (r:=.l 1) (Z8 s 0 1 1) rfl (B3 _ _ _ _) (B3 _ _ _ _) (by simp only [CL,and_self]) (by simp [Ba,ren,A4]) ?_)
  simp only [↓EJ,FY,simprocAttr,rd]
  refine hK _ (Aa [0,2,3,4,5,6,7,8,9,24,25,35,55] ?_);clear hK K
  refine WC.ret ?_
  simp only [↓EJ,FY,simprocAttr,EQ,EF,Tryz.results37]
  refine B5 (by simp only [CL,and_self]) Bf ⟨?_,rfl⟩
  rw [Bx,if_pos h8];rfl
 ·have h8:¬ 8192 < s.length:=by simp at h;omega
  have hs:s.length≤8192:=by omega
  refine WC.skip (hK1 _ ?_)
  refine WC.go ?_
  refine Aao 6 4 44 rfl ?_
  refine WC.ls ?_
  refine WC.bs fun K2 hK2=>?_
  refine WC.loop (X:=Nat × Nat × Nat × List Tok) (fun x=>⟨[(6,.ref (.l 2) 0 x.2.2.2.length),(5,.ptr (.l 1) 0 0),(4,.int .i64 0),(3,.ptr (.l 0) 0 0),(2,.nils),(0,.str s)],[],
    [.row [.agg [.int .i64 0,.int .i64 0]] 2 38,rd s x.1 x.2.1 x.2.2.1,.row (x.2.2.2.map tkv) 4 44],[]⟩)
   (fun x=>x.1≤s.length∧x.2.1≤x.1 + 1∧x.2.2.1≤x.1 + 1∧x.2.2.2.length≤x.1∧Gv s x.1 x.2.1 x.2.2.1 x.2.2.2=Gv s 0 1 1 []) (fun x=>s.length - x.1) (0,1,1,[]) [0,1,2]
   ⟨Nat.zero_le _,Nat.le_refl _,Nat.le_refl _,Nat.le_refl _,rfl⟩ ?_ ?_
  ·exact Conv.all (by simp only [EC,simprocAttr,rd])
  ·rintro ⟨a,l,c,acc⟩ ⟨h1,h2,h3,h4,h5⟩
   dsimp only at h1 h2 h3 h4 h5 ⊢
   refine Am fun K3 hK3=>?_
   refine WC.rs fun K hK=>?_
   simp only [↓EJ,FY,simprocAttr,rd]
   refine hK _ (Aa [0,2,3,4,5,6,7,8,9,24,25,35,55] ?_);clear hK K
   refine WC.cond rfl (fun h=>?_) fun h=>?_
   ·have hlt:a < s.length:=by simpa using h
    refine WC.skip (hK3 _ ?_)
    refine WC.b1 ?_
    refine WC.bs fun K4 hK4=>?_
    refine WC.rs fun K hK=>?_
    simp only [↓EJ,FY,simprocAttr,rd]
    repeat refine And.intro (by omega) ?_
    refine Bg (blank_sem _) ?_
    simp only [↓EJ,FY,simprocAttr]
    refine hK _ (Aa [0,2,3,4,5,6,7,8,9,24,25,35,55] ?_);clear hK K
    refine WC.cond rfl (fun h=>?_) fun h=>?_
    ·have hb:Ee (gb s a)=true:=h
     have hadv:=Lr s 1 a l c h2 h3
     refine WC.rs fun K hK=>?_
     simp only [↓EJ,FY,simprocAttr]
     refine CallX.mk (CallW.one (r:=.l 1) (Q7 s hs 1 a l c (by omega) h2 h3) rfl (B3 _ _ _ _) (B3 _ _ _ _) (by simp only [CL]) (by simp [Ba,ren,A4]) ?_)
     simp only [↓EJ,FY,simprocAttr]
     refine hK _ ?_;clear hK K
     refine WC.exit ?_
     simp only [EQ,reduceIte,Nat.reduceEqDiff]
     try simp only [EQ,simprocAttr]
     refine ⟨((adv s 1 (a,l,c)).1,(adv s 1 (a,l,c)).2.1,(adv s 1 (a,l,c)).2.2,acc),[0,1,2],⟨?_,?_,?_,?_,?_⟩,?_,?_⟩
     ·dsimp only;rw [Dk];omega
     ·dsimp only;rw [Dk];omega
     ·dsimp only;rw [Dk];omega
     ·dsimp only;rw [Dk];omega
     ·dsimp only
      rw [←h5,Dk]
      conv=>rhs;unfold Gv
      rw [dif_pos hlt,if_pos hb]
     ·dsimp only;rw [Dk];omega
     ·exact Conv.all (by simp only [EC,simprocAttr,rd,Cb acc _])
    ·have hb:¬ Ee (gb s a)=true:=by simp [h]
     refine WC.rs fun K hK=>?_
     simp only [↓EJ,FY,simprocAttr,rd]
     repeat refine And.intro (by omega) ?_
     refine hK _ (Aa [0,2,3,4,5,6,7,8,9,24,25,35,55] ?_);clear hK K
     refine WC.cond rfl (fun h=>?_) fun h=>?_
     ·have h35:gb s a=35:=by simpa using h
      have hra:=Fi (p:=Cg) (s:=s) (a:=a) h1
      have hrp:=H6 (p:=Cg) hlt (by simp [Cg,h35])
      have hrl:=Gd Cg s (s.length - a) a h1
      refine WC.rs fun K hK=>?_
      simp only [↓EJ,FY,simprocAttr]
      refine CallX.mk (CallW.one (r:=.l 1) (Ul s hs a l c h1 61 [] (by simp only [CL]) Cg (fun x=>Xl x)) rfl (B3 _ _ _ _) (B3 _ _ _ _) (by simp only [CL]) (by simp [Ba,ren,A4]) ?_)
      rw [show (s.drop a).take (Bs Cg s (s.length - a) a - a)=Ci Cg s a from rfl]
      have hadv:=Lr s (Ci Cg s a).length a l c h2 h3
      simp only [↓EJ,FY,simprocAttr]
      refine CallX.mk (CallW.one (r:=.l 1) (Q7 s hs (Ci Cg s a).length a l c (by omega) h2 h3) rfl (B3 _ _ _ _) (B3 _ _ _ _) (by simp only [CL]) (by simp [Ba,ren,A4]) ?_)
      simp only [↓EJ,FY,simprocAttr]
      refine hK _ ?_;clear hK K
      refine WC.exit ?_
      simp only [EQ,reduceIte,Nat.reduceEqDiff]
      try simp only [EQ,simprocAttr]
      refine ⟨((adv s (Ci Cg s a).length (a,l,c)).1,(adv s (Ci Cg s a).length (a,l,c)).2.1,(adv s (Ci Cg s a).length (a,l,c)).2.2,acc),[0,1,2],⟨?_,?_,?_,?_,?_⟩,?_,?_⟩
      ·dsimp only;rw [Dk];omega
      ·dsimp only;rw [Dk];omega
      ·dsimp only;rw [Dk];omega
      ·dsimp only;rw [Dk];omega
      ·dsimp only
       rw [←h5]
       conv=>rhs;unfold Gv
       rw [dif_pos hlt,if_neg hb,if_pos h35,Nat.max_eq_right (by rw [Dk];omega)]
      ·dsimp only;rw [Dk];omega
      ·exact Conv.all (by simp only [EC,simprocAttr,rd,Cb acc _])
     ·have h35:¬ gb s a=35:=by simpa using h
      refine WC.skip (hK4 _ ?_)
      refine WC.rs fun K hK=>?_
      simp only [↓EJ,FY,simprocAttr]
      refine CallX.mk (CallW.one (r:=.l 1) (Aa6 hkw hsg s hs a l c hlt) rfl (B3 _ _ _ _) (B3 _ _ _ _) (by simp only [CL,and_self]) (by simp [Ba,ren,A4]) ?_)
      simp only [↓EJ,FY,simprocAttr,rd]
      refine hK _ (Aa [0,2,3,4,5,6,7,8,9,24,25,35,55] ?_);clear hK K
      refine Am fun K5 hK5=>?_
      refine WC.go ?_
      refine WC.cond rfl (fun h=>?_) fun h=>?_
      ·have he:¬ (Bd s a).2.2=0:=by simp at h;omega
       refine WC.rs fun K hK=>?_
       simp only [↓EJ,FY,simprocAttr]
       refine CallX.mk (CallW.one (r:=.l 1) (Z8 s a l c) rfl (B3 _ _ _ _) (B3 _ _ _ _) (by simp only [CL,and_self]) (by simp [Ba,ren,A4]) ?_)
       simp only [↓EJ,FY,simprocAttr,rd]
       refine hK _ ?_;clear hK K
       refine WC.ret ?_
       simp only [↓EJ,FY,simprocAttr,EQ,EF,Tryz.results37]
       refine B5 (by simp only [CL,and_self]) Bf ⟨?_,rfl⟩
       rw [Bx,if_neg h8,← h5]
       unfold Gv
       rw [dif_pos hlt,if_neg hb,if_neg h35,if_neg he];rfl
      ·have he:(Bd s a).2.2=0:=by simp at h;omega
       have htl:=Mo s a hlt he
       have hadv:=Lr s (Bd s a).2.1.length a l c h2 h3
       refine WC.skip (hK5 _ ?_)
       refine WC.dg [⟨0,0,false,[]⟩,⟨1,0,false,[]⟩,⟨2,0,false,[]⟩,⟨3,0,false,[]⟩,⟨4,0,false,[]⟩,⟨5,0,false,[]⟩,⟨6,0,false,[]⟩,⟨7,0,false,[]⟩,⟨8,0,false,[]⟩,⟨9,0,false,[]⟩,⟨10,0,false,[]⟩,⟨11,0,false,[]⟩,⟨12,2,false,[]⟩,⟨13,1,false,[]⟩,⟨14,0,false,[]⟩] [0,0,0,0,8,24,56,0,128,384,896,2046,4094,8191,16383] fun K hK=>?_
       simp only [↓EJ,FY,simprocAttr,rd,List.length_map]
       repeat refine And.intro (by omega) ?_
       refine hK _ (Aa [0,2,3,4,5,6,7,8,9,24,25,35,55] ?_);clear hK K
       refine WC.r1 ?_
       simp only [↓EJ,FY,simprocAttr,rd]
       refine CallX.mk (CallW.one (r:=.l 1) (Q7 s hs (Bd s a).2.1.length a l c (by omega) h2 h3) rfl (B3 _ _ _ _) (B3 _ _ _ _) (by simp only [CL]) (by simp [Ba,ren,A4]) ?_)
       simp only [↓EJ,FY,simprocAttr]
       try simp only [EQ,simprocAttr]
       refine ⟨((adv s (Bd s a).2.1.length (a,l,c)).1,(adv s (Bd s a).2.1.length (a,l,c)).2.1,(adv s (Bd s a).2.1.length (a,l,c)).2.2,acc ++ [((Bd s a).1,(Bd s a).2.1,l,c)]),[0,1,3],⟨?_,?_,?_,?_,?_⟩,?_,?_⟩
       ·dsimp only;rw [Dk];omega
       ·dsimp only;rw [Dk];omega
       ·dsimp only;rw [Dk];omega
       ·dsimp only;rw [Dk,List.length_append];simp only [List.length_cons,List.length_nil];omega
       ·dsimp only
        rw [←h5]
        conv=>rhs;unfold Gv
        rw [dif_pos hlt,if_neg hb,if_neg h35,if_pos he,Nat.max_eq_right (by rw [Dk];omega)]
       ·dsimp only;rw [Dk];omega
       ·exact Conv.all (by simp only [EC,simprocAttr,rd,Cb acc _,Pb,List.length_append,List.map_append,tkv,tk])
   ·have hge:s.length≤a:=by simp at h;omega
    refine WC.exit ?_
    simp only [EQ,reduceIte,Nat.reduceEqDiff]
    refine hK2 _ ?_
    refine WC.dg [⟨0,0,false,[]⟩,⟨1,0,false,[]⟩,⟨2,0,false,[]⟩,⟨3,0,false,[]⟩,⟨4,0,false,[]⟩,⟨5,0,false,[]⟩,⟨6,0,false,[]⟩,⟨7,0,false,[]⟩,⟨8,0,false,[]⟩,⟨9,0,false,[]⟩,⟨10,2,false,[]⟩,⟨12,0,true,[]⟩,⟨11,1,false,[12]⟩,⟨13,0,false,[]⟩,⟨14,1,false,[]⟩,⟨15,0,false,[]⟩] [0,0,2,6,14,0,32,96,224,510,1022,2047,0,4095,16383,32767] fun K hK=>?_
    simp only [↓EJ,FY,simprocAttr,rd,List.length_map]
    repeat refine And.intro (by omega) ?_
    refine hK _ (Aa [0,2,3,4,5,6] ?_);clear hK K
    refine WC.frz 2 3 rfl rfl (by simp) ?_
    refine WC.ret ?_
    simp only [↓EJ,FY,simprocAttr,EQ,EF,Tryz.results37]
    rw [List.take_of_length_le (by simp)]
    have hr:Bx s=(acc ++ [(5,[],l,c)],(0,0),0):=by
     rw [Bx,if_neg h8,← h5]
     unfold Gv
     rw [dif_neg (by omega)]
    have ht:acc.map tkv ++ [.agg [.int .i64 5,.str [],.int .i64 l,.int .i64 c]]=(acc ++ [(5,[],l,c)]).map tkv:=by rw [List.map_append];rfl
    rw [hr,O8,ht]
    exact B5 (by simp only [CL,and_self,Cb]) Bf ⟨rfl,rfl⟩
end Go.LexSem
set_option maxRecDepth 8000
namespace Go.LexSem
open Go Go.V Go.Proofs

def E8 (t:List UInt8) (l c:Nat):Nat × Nat:=(adv t t.length (0,l,c)).2
/-- The reference's reading of the text t that is left, at line l and column c, behind the tokens acc. -/
def Yr (t:List UInt8) (l c:Nat) (acc:List Tok):List Tok × (Nat × Nat) × Nat :=
 if t.drop (Ax t 0)=[] then (acc ++ [(5,[],(E8 (t.take (Ax t 0)) l c).1,(E8 (t.take (Ax t 0)) l c).2)],(0,0),0)
 else if (Ef (t.drop (Ax t 0))).2.2=0 then
  if h:0 < (Ef (t.drop (Ax t 0))).2.1.length∧(Ef (t.drop (Ax t 0))).2.1.length≤(t.drop (Ax t 0)).length then
   Yr ((t.drop (Ax t 0)).drop (Ef (t.drop (Ax t 0))).2.1.length)
    (E8 (Ef (t.drop (Ax t 0))).2.1 (E8 (t.take (Ax t 0)) l c).1 (E8 (t.take (Ax t 0)) l c).2).1
    (E8 (Ef (t.drop (Ax t 0))).2.1 (E8 (t.take (Ax t 0)) l c).1 (E8 (t.take (Ax t 0)) l c).2).2
    (acc ++ [((Ef (t.drop (Ax t 0))).1,(Ef (t.drop (Ax t 0))).2.1,(E8 (t.take (Ax t 0)) l c).1,(E8 (t.take (Ax t 0)) l c).2)])
  else ([],(0,0),0)
 else ([],(E8 (t.take (Ax t 0)) l c),(Ef (t.drop (Ax t 0))).2.2)
termination_by t.length
decreasing_by
 simp only [List.length_drop] at h ⊢
 omega
def D1 (s:List UInt8):List Tok × (Nat × Nat) × Nat:=if 8192 < s.length then ([],(1,1),9) else Yr s 1 1 []

theorem R2 (s:List UInt8):∀ k i,s.length - i=k→i≤s.length→Ax s i≤s.length:=by
 intro k
 induction k using Nat.strongRecOn with
 | _ k ih =>
   intro i hk hi
   unfold Ax
   split
   ·rename_i hlt
    split
    ·exact ih _ (by omega) (i + 1) rfl (by omega)
    ·split
     ·have:=Gd Cg s (s.length - i) i hi
      exact ih _ (by omega) _ rfl (by omega)
     ·exact hi
   ·exact hi
theorem W1 (t:List UInt8) (l c:Nat) (hc:1≤c):(E8 t l c).1≤l + t.length∧(E8 t l c).2≤c + t.length∧1≤(E8 t l c).2:=by
 have key:∀ k a l c,1≤c→(adv t k (a,l,c)).2.1≤l + k∧(adv t k (a,l,c)).2.2≤c + k∧1≤(adv t k (a,l,c)).2.2:=by
  intro k
  induction k with
  | zero=>intro a l c hc;exact ⟨Nat.le_refl _,Nat.le_refl _,hc⟩
  | succ k ih =>
    intro a l c hc
    unfold adv
    split
    ·have:=ih (a + 1) (l + 1) 1 (Nat.le_refl _);omega
    ·have:=ih (a + 1) l (c + 1) (by omega);omega
 exact key _ _ _ _ hc
theorem Ti (s:List UInt8) (hs:s.length≤8192) (l c:Nat) (hl:l≤100000) (hc:c≤100000) :
  FSem C 29 [pl l c,.str s] [] fun r st=>r=.ret (pl (E8 s l c).1 (E8 s l c).2)∧st=[]:=move_sem s hs l c hl hc
/-- What next hands back without an error: a byte at least, within the text. -/
theorem nextF_len (s:List UInt8) (h0:0 < s.length) (h:(Ef s).2.2=0):0 < (Ef s).2.1.length∧(Ef s).2.1.length≤s.length:=by
 have hw:=Ss s s.length 0 (Nat.zero_le _)
 have hd:=Gd A9 s s.length 0 (Nat.zero_le _)
 have hg:=Wb s h0
 unfold Ef at h ⊢
 split
 ·rename_i hp
  rw [if_pos hp] at h
  split
  ·simp only [List.length_take];omega
  ·rename_i hk
   rw [if_neg hk] at h
   split
   ·rename_i h12;rw [if_pos h12] at h;cases h
   ·simp only [List.length_take];omega
 ·rename_i hp
  rw [if_neg hp] at h
  split
  ·rename_i h60;rw [if_pos h60] at h;cases h
  ·rename_i h60
   rw [if_neg h60] at h
   split
   ·simp only [List.length_take];omega
   ·rename_i hj
    rw [if_neg hj] at h
    split
    ·rename_i hz;rw [if_pos hz] at h;cases h
    ·simp only [List.length_take];omega

theorem Sk (s:List UInt8) :
  FSem C 14 [.str s] [] fun r st=>r=.ret (.tuple [V5 (D1 s).1,pl (D1 s).2.1.1 (D1 s).2.1.2,.int .i64 (D1 s).2.2])∧st=[]:=by
 refine FSem.en 64 Tryz.func14 ?_
 simp only [Aj]
 refine WC.go ?_
 refine WC.go ?_
 refine Am fun K1 hK1=>?_
 refine WC.go ?_
 refine WC.cond rfl (fun h=>?_) fun h=>?_
 ·have h8:8192 < s.length:=by simp at h;omega
  refine WC.dg [⟨0,0,false,[]⟩,⟨1,0,false,[]⟩,⟨2,1,false,[]⟩,⟨3,0,false,[]⟩] [0,0,3,7] fun K hK=>?_
  simp only [↓EJ,FY,simprocAttr]
  refine hK _ ?_;clear hK K
  refine WC.ret ?_
  simp only [↓EJ,FY,simprocAttr,EQ,EF,Tryz.results14]
  refine B5 (by simp only [CL,and_self]) Bf ⟨?_,rfl⟩
  rw [D1,if_pos h8];rfl
 ·have h8:¬ 8192 < s.length:=by simp at h;omega
  have hs:s.length≤8192:=by omega
  refine WC.skip (hK1 _ ?_)
  refine WC.go ?_
  refine Aao 6 4 44 rfl ?_
  refine WC.b1 ?_
  refine WC.loop (X:=List UInt8 × Nat × Nat × List Tok) (fun x=>⟨[(6,.ref (.l 2) 0 x.2.2.2.length),(5,.ptr (.l 1) 0 0),(4,.int .i64 0),(3,.ptr (.l 0) 0 0),(2,.nils),(0,.str x.1)],[],
    [.row [.agg [.int .i64 0,.int .i64 0]] 2 38,.row [.agg [.int .i64 (x.2.1:Nat),.int .i64 (x.2.2.1:Nat)]] 2 38,.row (x.2.2.2.map tkv) 4 44],[]⟩)
   (fun x=>x.1.length≤8192∧x.2.1 + x.1.length≤8193∧1≤x.2.2.1∧x.2.2.1 + x.1.length≤8193∧x.2.2.2.length + x.1.length≤8192∧Yr x.1 x.2.1 x.2.2.1 x.2.2.2=Yr s 1 1 []) (fun x=>x.1.length) (s,1,1,[]) [0,1,2]
   ⟨hs,by dsimp only;omega,Nat.le_refl _,by dsimp only;omega,by dsimp only;simp only [List.length_nil];omega,rfl⟩ ?_ ?_
  ·exact Conv.all (by simp only [EC,simprocAttr])
  ·rintro ⟨t,l,c,acc⟩ ⟨h1,h2,hc1,h3,h4,h5⟩
   dsimp only at h1 h2 hc1 h3 h4 h5 ⊢
   have hbl:=R2 t _ 0 rfl (Nat.zero_le _)
   refine WC.b1 ?_
   refine WC.rs fun K hK=>?_
   simp only [↓EJ,FY,simprocAttr]
   refine Bg (Zk t h1) ?_
   simp only [↓EJ,FY,simprocAttr]
   refine hK _ (Aa [0,2,3,4,5,6,7,8,9,26,42] ?_);clear hK K
   have hrf:=h5
   conv at hrf=>lhs;unfold Yr
   generalize hn:Ax t 0=n at hrf hbl ⊢
   have htl:(t.take n).length=n:=by rw [List.length_take];omega
   have hdl:(t.drop n).length=t.length - n:=List.length_drop
   have hdn:t.length - (t.length - n)=n:=by omega
   have hm:=W1 (t.take n) l c hc1
   rw [htl] at hm
   refine WC.dg [⟨0,0,false,[]⟩,⟨1,0,false,[]⟩,⟨2,0,false,[]⟩,⟨3,0,false,[]⟩,⟨4,1,false,[]⟩,⟨5,1,false,[]⟩] [0,0,0,6,15,31] fun K hK=>?_
   simp only [↓EJ,FY,simprocAttr]
   repeat refine And.intro (by omega) ?_
   refine CallX.mk (CallW.pure (Ti (t.take n) (by omega) l c (by omega) (by omega)) (by simp only [pl,CL,and_self]) (by simp only [pl,CL,and_self]) ?_)
   simp only [↓EJ,FY,simprocAttr,pl]
   refine hK _ ?_;clear hK K
   generalize E8 (t.take n) l c=p at hrf hm ⊢
   obtain ⟨l1,c1⟩:=p
   dsimp only at hm hrf
   refine WC.rs fun K hK=>?_
   simp only [↓EJ,FY,simprocAttr]
   repeat refine And.intro (by omega) ?_
   refine hK _ (Aa [0,2,3,4,5,6,7,8,9,26,42] ?_);clear hK K
   have htk:(t.drop n).take (t.length - n)=t.drop n:=List.take_of_length_le (by omega)
   rw [htk]
   generalize t.drop n=u at hrf hdl ⊢
   refine Am fun K2 hK2=>?_
   refine WC.go ?_
   refine WC.cond rfl (fun h=>?_) fun h=>?_
   ·have hu:u=[]:=by simpa using h
    rw [if_pos hu] at hrf
    refine WC.rs fun K hK=>?_
    simp only [↓EJ,FY,simprocAttr,List.length_map]
    repeat refine And.intro (by omega) ?_
    refine hK _ (Aa [0,2,3,4,5,6,7,8,9,26,42] ?_);clear hK K
    refine WC.frz 2 4 rfl rfl (by simp) ?_
    refine WC.ret ?_
    simp only [↓EJ,FY,simprocAttr,EQ,EF,Tryz.results14]
    rw [List.take_of_length_le (by simp)]
    have ht:acc.map tkv ++ [.agg [.int .i64 5,.str [],.int .i64 l1,.int .i64 c1]]=(acc ++ [(5,[],l1,c1)]).map tkv:=by rw [List.map_append];rfl
    have hr:D1 s=(acc ++ [(5,[],l1,c1)],(0,0),0):=by rw [D1,if_neg h8,← hrf]
    rw [hr,O8,ht]
    exact B5 (by simp only [CL,and_self,Cb]) Bf ⟨rfl,rfl⟩
   ·have hu:¬ u=[]:=by simpa using h
    have hup:0 < u.length:=List.length_pos_iff.2 hu
    rw [if_neg hu] at hrf
    refine WC.skip (hK2 _ ?_)
    refine WC.rs fun K hK=>?_
    simp only [↓EJ,FY,simprocAttr]
    refine CallX.mk (CallW.pure (lnext_sem u (by omega) hup) (by simp only [CL,and_self]) (by simp only [tk,CL,and_self]) ?_)
    simp only [↓EJ,FY,simprocAttr,tk]
    refine hK _ ?_;clear hK K
    have hnl:=nextF_len u hup
    generalize Ef u=r at hrf hnl ⊢
    obtain ⟨k,x,e⟩:=r
    dsimp only at hrf hnl
    refine Am fun K3 hK3=>?_
    refine WC.go (Aa [0,2,3,4,5,6,7,8,9,26,42] ?_)
    refine WC.cond rfl (fun h=>?_) fun h=>?_
    ·have he:¬ e=0:=by simp at h;omega
     rw [if_neg he] at hrf
     refine WC.dg [⟨0,0,false,[]⟩,⟨1,0,true,[]⟩,⟨2,0,false,[]⟩,⟨3,1,false,[1]⟩,⟨4,0,false,[]⟩] [0,0,0,5,15] fun K hK=>?_
     simp only [↓EJ,FY,simprocAttr]
     refine hK _ ?_;clear hK K
     refine WC.ret ?_
     simp only [↓EJ,FY,simprocAttr,EQ,EF,Tryz.results14]
     refine B5 (by simp only [CL,and_self]) Bf ⟨?_,rfl⟩
     rw [D1,if_neg h8,← hrf];rfl
    ·have he:e=0:=by simp at h;omega
     have hx:=hnl he
     rw [if_pos he,dif_pos hx] at hrf
     have hm2:=W1 x l1 c1 hm.2.2
     refine WC.skip (hK3 _ ?_)
     refine WC.dg [⟨0,0,false,[]⟩,⟨1,0,false,[]⟩,⟨2,0,true,[]⟩,⟨3,0,true,[]⟩,⟨4,0,false,[]⟩,⟨5,1,false,[2,3]⟩,⟨6,0,false,[]⟩,⟨7,1,false,[]⟩] [0,1,0,4,3,19,63,127] fun K hK=>?_
     simp only [↓EJ,FY,simprocAttr]
     repeat refine And.intro (by omega) ?_
     refine hK _ (Aa [0,2,3,4,5,6,7,8,9,26,42] ?_);clear hK K
     refine WC.rs fun K hK=>?_
     simp only [↓EJ,FY,simprocAttr,List.length_map]
     repeat refine And.intro (by omega) ?_
     refine hK _ ?_;clear hK K
     refine WC.rs fun K hK=>?_
     simp only [↓EJ,FY,simprocAttr]
     refine CallX.mk (CallW.pure (Ti x (by omega) l1 c1 (by omega) (by omega)) (by simp only [pl,CL,and_self]) (by simp only [pl,CL,and_self]) ?_)
     simp only [↓EJ,FY,simprocAttr,pl]
     refine hK _ (Aa [0,2,3,4,5,6,7,8,9,26,42] ?_);clear hK K
     refine WC.r1 ?_
     simp only [↓EJ,FY,simprocAttr]
     repeat refine And.intro (by omega) ?_
     try simp only [EQ,simprocAttr]
     have hxl:(u.drop x.length).length=u.length - x.length:=List.length_drop
     refine ⟨(u.drop x.length,(E8 x l1 c1).1,(E8 x l1 c1).2,acc ++ [(k,x,l1,c1)]),[0,1,5],⟨?_,?_,?_,?_,?_,?_⟩,?_,?_⟩
     ·dsimp only;omega
     ·dsimp only;omega
     ·dsimp only;omega
     ·dsimp only;omega
     ·dsimp only;rw [List.length_append];simp only [List.length_cons,List.length_nil];omega
     ·exact hrf
     ·dsimp only;omega
     ·have htk2:(u.drop x.length).take (u.length - x.length)=u.drop x.length:=List.take_of_length_le (by omega)
      exact Conv.all (by simp only [EC,simprocAttr,htk2,Cb acc _,Pb,List.length_append,List.map_append,tkv,tk])
end Go.LexSem
set_option maxRecDepth 8000
namespace Go.LexSem
open Go Go.V

/-! ### the same bytes, further on -/
theorem Qh (s:List UInt8) (a i:Nat):gb (s.drop a) i=gb s (a + i):=by simp [gb,List.getD_eq_getElem?_getD,List.getElem?_drop]
theorem gb_take (s:List UInt8) (n i:Nat) (h:i < n):gb (s.take n) i=gb s i:=by simp [gb,List.getD_eq_getElem?_getD,List.getElem?_take,h]
theorem Ms (p:Int→Bool) (s:List UInt8) (a:Nat):∀ f i,Bs p (s.drop a) f i + a=Bs p s f (a + i)
 | 0,i=>Nat.add_comm _ _
 | f + 1,i=>by
   unfold Bs
   rw [Qh,List.length_drop]
   by_cases h:a + i < s.length∧p (gb s (a + i))=true
   ·rw [if_pos h,if_pos ⟨by omega,h.2⟩,Ms p s a f (i + 1)];rfl
   ·rw [if_neg h,if_neg (fun hh=>h ⟨by omega,hh.2⟩)];omega
theorem Ve (s:List UInt8) (a:Nat):∀ k i,s.length - (a + i)=k→Ax (s.drop a) i + a=Ax s (a + i):=by
 intro k
 induction k using Nat.strongRecOn with
 | _ k ih =>
   intro i hk
   unfold Ax
   rw [Qh,List.length_drop]
   by_cases h:a + i < s.length
   ·rw [dif_pos h,dif_pos (show i < s.length - a by omega)]
    by_cases hb:Ee (gb s (a + i))=true
    ·rw [if_pos hb,if_pos hb];exact ih _ (by omega) (i + 1) rfl
    ·rw [if_neg hb,if_neg hb]
     by_cases h35:gb s (a + i)=35
     ·rw [if_pos h35,if_pos h35]
      have h1:=Ms Cg s a (s.length - a - i) i
      have e:s.length - (a + i)=s.length - a - i:=by omega
      rw [e,← h1]
      have h2:=ih (s.length - (a + max (i + 1) (Bs Cg (s.drop a) (s.length - a - i) i))) (by omega) (max (i + 1) (Bs Cg (s.drop a) (s.length - a - i) i)) rfl
      rw [h2];congr 1;omega
     ·rw [if_neg h35,if_neg h35];omega
   ·rw [dif_neg h,dif_neg (show ¬ i < s.length - a by omega)];omega
theorem Aan (s:List UInt8):∀ j k p,adv s (j + k) p=adv s k (adv s j p)
 | 0,k,p=>by rw [Nat.zero_add];rfl
 | j + 1,k,(a,l,c)=>by
   rw [show j + 1 + k=(j + k) + 1 by omega]
   exact Aan s j k (if gb s a=10 then (a + 1,l + 1,1) else (a + 1,l,c + 1))
/-- The place behind k bytes, by the bytes themselves. -/
theorem R3 {s t:List UInt8}:∀ k a b l c,(∀ i,i < k→gb s (a + i)=gb t (b + i))→(adv s k (a,l,c)).2=(adv t k (b,l,c)).2
 | 0,a,b,l,c,_=>rfl
 | k + 1,a,b,l,c,h=>by
   have h0:=h 0 (Nat.zero_lt_succ _)
   rw [Nat.add_zero,Nat.add_zero] at h0
   have hs:∀ i,i < k→gb s (a + 1 + i)=gb t (b + 1 + i):=fun i hi=>by
    have:=h (i + 1) (by omega)
    rwa [show a + (i + 1)=a + 1 + i by omega,show b + (i + 1)=b + 1 + i by omega] at this
   unfold adv
   rw [h0]
   split
   ·exact R3 k _ _ _ _ hs
   ·exact R3 k _ _ _ _ hs
theorem Rj (s:List UInt8) (a n l c:Nat) (h:a + n≤s.length):E8 ((s.drop a).take n) l c=(adv s n (a,l,c)).2:=by
 unfold E8
 have hl:((s.drop a).take n).length=n:=by rw [List.length_take,List.length_drop];omega
 rw [hl]
 refine R3 n 0 a l c (fun i hi=>?_)
 rw [Nat.zero_add,gb_take _ _ _ hi,Qh]

theorem adv_eta (s:List UInt8) (k a l c:Nat):adv s k (a,l,c)=(a + k,(adv s k (a,l,c)).2.1,(adv s k (a,l,c)).2.2):=by
 have:=Dk s k a l c
 generalize adv s k (a,l,c)=p at *
 obtain ⟨x,y,z⟩:=p
 simp at this ⊢;exact this

/-- Blanks and comments are passed over. -/
theorem W8 (s:List UInt8):∀ k a l c acc,s.length - a=k→a≤s.length →
  a≤Ax s a∧Gv s a l c acc=Gv s (Ax s a) (adv s (Ax s a - a) (a,l,c)).2.1 (adv s (Ax s a - a) (a,l,c)).2.2 acc:=by
 intro k
 induction k using Nat.strongRecOn with
 | _ k ih =>
   intro a l c acc hk ha
   have stay:Ax s a=a→a≤Ax s a∧Gv s a l c acc=Gv s (Ax s a) (adv s (Ax s a - a) (a,l,c)).2.1 (adv s (Ax s a - a) (a,l,c)).2.2 acc:=fun h=>by
    rw [h,Nat.sub_self];exact ⟨Nat.le_refl _,rfl⟩
   have go:∀ j,0 < j→a + j≤s.length→Ax s a=Ax s (a + j)→Gv s a l c acc=Gv s (a + j) (adv s j (a,l,c)).2.1 (adv s j (a,l,c)).2.2 acc →
     a≤Ax s a∧Gv s a l c acc=Gv s (Ax s a) (adv s (Ax s a - a) (a,l,c)).2.1 (adv s (Ax s a - a) (a,l,c)).2.2 acc:=fun j hj hle hb hl=>by
    obtain ⟨h1,h2⟩:=ih _ (by omega) (a + j) (adv s j (a,l,c)).2.1 (adv s j (a,l,c)).2.2 acc rfl hle
    rw [hb]
    refine ⟨by omega,?_⟩
    rw [hl,h2,← adv_eta s j a l c,← Aan,show j + (Ax s (a + j) - (a + j))=Ax s (a + j) - a by omega]
   by_cases h:a < s.length
   ·by_cases hb:Ee (gb s a)=true
    ·refine go 1 (by omega) (by omega) ?_ ?_
     ·conv=>lhs;unfold Ax
      rw [dif_pos h,if_pos hb]
     ·conv=>lhs;unfold Gv
      rw [dif_pos h,if_pos hb]
    ·by_cases h35:gb s a=35
     ·have hp:=H6 (p:=Cg) h (by simp [Cg,h35])
      have hl:=Gd Cg s (s.length - a) a ha
      have hr:=Fi (p:=Cg) (s:=s) (a:=a) ha
      refine go (Ci Cg s a).length (by omega) (by omega) ?_ ?_
      ·conv=>lhs;unfold Ax
       rw [dif_pos h,if_neg hb,if_pos h35,hr,Nat.max_eq_right hp]
      ·conv=>lhs;unfold Gv
       rw [dif_pos h,if_neg hb,if_pos h35,Dk,Nat.max_eq_right (by omega)]
     ·refine stay ?_
      unfold Ax
      rw [dif_pos h,if_neg hb,if_neg h35]
   ·refine stay ?_
    unfold Ax
    rw [dif_neg h]
end Go.LexSem
set_option maxRecDepth 8000
namespace Go.LexSem
open Go Go.V

theorem Vn (x:Int):Dl false x=Fl x:=by
 rw [Bool.eq_iff_iff]
 simp only [Dl,Fl,Bool.or_eq_true,Bool.and_eq_true,decide_eq_true_eq,Bool.false_and,Bool.false_eq_true,or_false]
 omega
theorem Mj (x:Int):Dl true x=(Fl x || A9 x):=by
 rw [Bool.eq_iff_iff]
 simp only [Dl,Fl,A9,Bool.or_eq_true,Bool.and_eq_true,decide_eq_true_eq,Bool.true_and]
 omega
theorem Ql (t:List UInt8):∀ f i,0 < i→Ev t f i=Bs (Dl true) t f i
 | 0,i,_=>rfl
 | f + 1,i,hi=>by
   unfold Ev Bs
   rw [Ql t f (i + 1) (by omega),Mj]
   simp [hi]
theorem wordTo_0 (t:List UInt8) (h:0 < t.length):Ev t t.length 0=if Fl (gb t 0)=true then Bs (Dl true) t t.length 0 else 0:=by
 obtain ⟨f,hf⟩:∃ f,t.length=f + 1:=⟨t.length - 1,by omega⟩
 rw [hf]
 unfold Ev Bs
 by_cases hl:Fl (gb t 0)=true
 ·rw [if_pos hl,if_pos ⟨h,by simp [hl]⟩,if_pos ⟨h,by rw [Mj,hl];rfl⟩,Ql t f (0 + 1) (by omega)]
 ·rw [if_neg hl,if_neg (fun hh=>hl (by simpa using hh.2))]
theorem Md (t:List UInt8) (ys:List (List UInt8)):∀ xs,El t (xs ++ ys)=match El t xs with
  | some x=>some x
  | none=>El t ys
 | []=>rfl
 | x::r=>by
   simp only [List.cons_append,El]
   split
   ·rfl
   ·exact Md t ys r
theorem Kz (t:List UInt8) (n:Nat):∀ xs:List (List UInt8),(∀ x∈xs,x.length=n)→El t xs=if n≤t.length∧t.take n∈xs then some (t.take n) else none
 | [],_=>by simp [El]
 | x::r,h=>by
   have hx:x.length=n:=h x List.mem_cons_self
   unfold El
   rw [hx,Kz t n r (fun y hy=>h y (List.mem_cons_of_mem _ hy))]
   by_cases h1:n≤t.length
   ·by_cases h2:t.take n=x
    ·rw [if_pos ⟨h1,h2⟩,if_pos ⟨h1,by rw [h2];exact List.mem_cons_self⟩,h2]
    ·rw [if_neg (fun hh=>h2 hh.2)]
     by_cases h3:t.take n∈r
     ·rw [if_pos ⟨h1,h3⟩,if_pos ⟨h1,List.mem_cons_of_mem _ h3⟩]
     ·rw [if_neg (fun hh=>h3 hh.2),if_neg (fun hh=>(List.mem_cons.1 hh.2).elim h2 h3)]
   ·rw [if_neg (fun hh=>h1 hh.1),if_neg (fun hh=>h1 hh.1),if_neg (fun hh=>h1 hh.1)]
theorem sgs_eq:sgs=twos ++ ones.map (fun b=>[b]):=by decide
theorem Z9 (t:List UInt8) (h:0 < t.length):t.take 1∈ones.map (fun b=>[b])↔gb t 0∈oneNums:=by
 cases t with
 | nil=>simp at h
 | cons x r =>
   have e:gb (x::r) 0=(x.toNat:Int):=by simp [gb]
   rw [e]
   simp only [List.take_succ_cons,List.take_zero,oneNums,List.mem_map,List.cons.injEq,and_true]
   constructor
   ·rintro ⟨y,hy,rfl⟩;exact ⟨y,hy,rfl⟩
   ·rintro ⟨y,hy,hxy⟩
    exact ⟨y,hy,UInt8.toNat_inj.1 (by omega)⟩
theorem sign_same (t:List UInt8) (h:0 < t.length):El t sgs=if Iz t=0 then none else some (t.take (Iz t)):=by
 rw [sgs_eq,Md,Kz t 2 twos (by decide),Kz t 1 _ (by decide)]
 unfold Iz
 by_cases h2:2≤t.length∧t.take 2∈twos
 ·rw [if_pos h2,if_pos h2];rfl
 ·rw [if_neg h2,if_neg h2]
  dsimp only
  by_cases h1:gb t 0∈oneNums
  ·rw [if_pos h1,if_pos ⟨h,(Z9 t h).2 h1⟩];rfl
  ·rw [if_neg h1,if_neg (fun hh=>h1 ((Z9 t h).1 hh.2))];rfl

/-- The two see the same token. -/
theorem Y1 (s:List UInt8) (b:Nat) (hb:b < s.length):Ef (s.drop b)=Bd s b:=by
 have hl:(s.drop b).length=s.length - b:=List.length_drop
 have hpos:0 < (s.drop b).length:=by omega
 have g0:gb (s.drop b) 0=gb s b:=by rw [Qh];rfl
 have hrun:∀ p,Bs p (s.drop b) (s.drop b).length 0=Bs p s (s.length - b) b - b:=fun p=>by
  have:=Ms p s b (s.length - b) 0
  rw [hl];rw [Nat.add_zero] at this;omega
 have htake:∀ p,(s.drop b).take (Bs p (s.drop b) (s.drop b).length 0)=Ci p s b:=fun p=>by rw [hrun];rfl
 have hlen:∀ p,(Ci p s b).length=Bs p (s.drop b) (s.drop b).length 0:=fun p=>by
  have:=Fi (p:=p) (s:=s) (a:=b) (by omega)
  rw [hrun];omega
 unfold Ef Bd
 rw [wordTo_0 _ hpos,g0,Vn]
 by_cases hw:Fl (gb s b)=true
 ·have hp:0 < Bs (Dl true) (s.drop b) (s.drop b).length 0:=by
   have:=H6 (p:=Dl true) hb (by rw [Mj,hw];rfl)
   rw [hrun];omega
  rw [if_pos hw,if_pos hw,if_pos hp,htake,hlen]
 ·rw [if_neg hw,if_neg hw,if_neg (Nat.lt_irrefl 0),htake,← hlen A9]
  by_cases hd:A9 (gb s b)=true
  ·have hp:0 < (Ci A9 s b).length:=by
    have:=H6 (p:=A9) hb hd
    rw [hlen,hrun];omega
   rw [if_pos hd,if_pos hp]
  ·have hz:(Ci A9 s b).length=0:=by
    rw [hlen,hrun]
    rw [show s.length - b=(s.length - (b + 1)) + 1 by omega]
    unfold Bs
    rw [if_neg (fun hh=>hd hh.2)];omega
   rw [if_neg hd,hz,if_neg (by omega),if_neg (by omega),sign_same _ hpos]
   by_cases hs:Iz (s.drop b)=0
   ·rw [if_pos hs,if_pos hs]
   ·rw [if_neg hs,if_neg hs]
end Go.LexSem
set_option maxRecDepth 8000
namespace Go.LexSem
open Go Go.V

theorem Xn (s:List UInt8):∀ k a,s.length - a=k→Ax s a < s.length→¬ Ee (gb s (Ax s a))=true∧¬ gb s (Ax s a)=35:=by
 intro k
 induction k using Nat.strongRecOn with
 | _ k ih =>
   intro a hk
   unfold Ax
   by_cases h:a < s.length
   ·rw [dif_pos h]
    by_cases hb:Ee (gb s a)=true
    ·rw [if_pos hb];exact ih _ (by omega) _ rfl
    ·rw [if_neg hb]
     by_cases h35:gb s a=35
     ·rw [if_pos h35];exact ih _ (by omega) _ rfl
     ·rw [if_neg h35];exact fun _=>⟨hb,h35⟩
   ·rw [dif_neg h];exact fun hh=>absurd hh h
theorem Oj {α:Type} (l:List α) (n:Nat):l.take (l.take n).length=l.take n:=by
 rw [List.length_take]
 rcases Nat.le_total n l.length with h | h
 ·rw [Nat.min_eq_left h]
 ·rw [Nat.min_eq_right h,List.take_of_length_le (Nat.le_refl _),List.take_of_length_le h]
theorem V6 (s:List UInt8) (a:Nat):(s.drop a).take (Bd s a).2.1.length=(Bd s a).2.1:=by
 unfold Bd
 split
 ·split
  ·exact Oj _ _
  ·split
   ·rfl
   ·exact Oj _ _
 ·split
  ·split
   ·rfl
   ·exact Oj _ _
  ·cases hs:El (s.drop a) sgs with
   | none=>rfl
   | some x=>exact (Ky _ _ _ hs).2.2

theorem ref_lex (s:List UInt8):∀ k a l c acc,s.length - a=k→a≤s.length→Yr (s.drop a) l c acc=Gv s a l c acc:=by
 intro k
 induction k using Nat.strongRecOn with
 | _ k ih =>
   intro a l c acc hk ha
   obtain ⟨h1,h2⟩:=W8 s _ a l c acc rfl ha
   have h3:=R2 s _ a rfl ha
   have h4:=Ve s a _ 0 rfl
   have h5:=Xn s _ a rfl
   rw [Nat.add_zero] at h4
   rw [h2]
   generalize hbe:Ax s a=b at h1 h3 h4 h5 ⊢
   have hn:Ax (s.drop a) 0=b - a:=by omega
   have hm:E8 ((s.drop a).take (b - a)) l c=(adv s (b - a) (a,l,c)).2:=Rj s a (b - a) l c (by omega)
   have hd:(s.drop a).drop (b - a)=s.drop b:=by rw [List.drop_drop];congr 1;omega
   unfold Yr
   rw [hn,hd,hm]
   generalize (adv s (b - a) (a,l,c)).2=p
   obtain ⟨l1,c1⟩:=p
   dsimp only
   by_cases hb:b < s.length
   ·obtain ⟨hnb,hn35⟩:=h5 hb
    have hne:¬ s.drop b=[]:=fun e=>by
     have:=congrArg List.length e
     rw [List.length_drop] at this
     simp at this;omega
    rw [if_neg hne,Y1 s b hb]
    conv=>rhs;unfold Gv
    rw [dif_pos hb,if_neg hnb,if_neg hn35]
    by_cases he:(Bd s b).2.2=0
    ·have htl:=Mo s b hb he
     rw [if_pos he,if_pos he,dif_pos ⟨htl.1,by rw [List.length_drop];omega⟩,List.drop_drop,Dk,Nat.max_eq_right (by omega)]
     have hmv:E8 (Bd s b).2.1 l1 c1=(adv s (Bd s b).2.1.length (b,l1,c1)).2:=by
      have:=Rj s b (Bd s b).2.1.length l1 c1 htl.2
      rwa [V6] at this
     rw [hmv]
     exact ih _ (by omega) _ _ _ _ rfl htl.2
    ·rw [if_neg he,if_neg he]
   ·have hbl:b=s.length:=by omega
    have he:s.drop b=[]:=by rw [hbl];exact List.drop_length
    rw [if_pos he]
    unfold Gv
    rw [dif_neg hb]

/-- The lexer and the reference hand back the same. -/
theorem Wf (s:List UInt8):D1 s=Bx s:=by
 unfold D1 Bx
 split
 ·rfl
 ·have:=ref_lex s _ 0 1 1 [] rfl (Nat.zero_le _)
  rwa [List.drop_zero] at this
end Go.LexSem
set_option maxRecDepth 8000
namespace Go.LexSem
open Go Go.V Go.Proofs

theorem lexF_len (s:List UInt8):∀ k a l c acc,s.length - a=k→(Gv s a l c acc).1.length≤acc.length + k + 1:=by
 intro k
 induction k using Nat.strongRecOn with
 | _ k ih =>
   intro a l c acc hk
   unfold Gv
   split
   ·split
    ·have:=ih _ (by omega) (a + 1) (adv s 1 (a,l,c)).2.1 (adv s 1 (a,l,c)).2.2 acc rfl;omega
    ·split
     ·have:=ih _ (by omega) (max (a + 1) (adv s (Ci Cg s a).length (a,l,c)).1) (adv s (Ci Cg s a).length (a,l,c)).2.1 (adv s (Ci Cg s a).length (a,l,c)).2.2 acc rfl;omega
     ·split
      ·have:=ih _ (by omega) (max (a + 1) (adv s (Bd s a).2.1.length (a,l,c)).1) (adv s (Bd s a).2.1.length (a,l,c)).2.1 (adv s (Bd s a).2.1.length (a,l,c)).2.2 (acc ++ [((Bd s a).1,(Bd s a).2.1,l,c)]) rfl
       rw [List.length_append] at this
       simp only [List.length_cons,List.length_nil] at this
       omega
      ·simp
   ·simp
theorem tokensF_len (s:List UInt8):(Bx s).1.length≤8193:=by
 unfold Bx
 split
 ·simp
 ·have:=lexF_len s _ 0 1 1 [] rfl
  simp only [List.length_nil] at this
  omega

end Go.LexSem
set_option maxRecDepth 100000
namespace Go.LexSem
open Go Go.V Go.Proofs

/-- strings.Fields at an ASCII text. -/
theorem Aai (s:List UInt8) (hs:s.length < 4294967281) (ha:s.all (fun b=>decide (b.toNat < 128))=true) (ws:List (List UInt8)) (h:Lib.fields s=ws) :
  FSem C 121 [.str s] [] fun r st=>r=.ret (.slc (ws.map .str))∧st=[]:=by
 subst h
 exact Y9 (C:=C) (ρ:=Pe) lays157 (by kernel_rfl) (by kernel_rfl) rfl s hs (fun b hb=>by simpa using List.all_eq_true.1 ha b hb)

def kwText:List UInt8:=[112,97,114,97,109,32,102,117,110,99,32,113,117,101,114,121,32,118,97,114,32,114,101,116,117,114,110,32,98,111,111,108,32,105,110,116,32,110,97,116,32,114,101,97,108,32,108,105,115,116,32,105,102,32,101,108,115,101,32,114,101,112,101,97,116,32,119,104,105,108,101,32,111,98,115,101,114,118,101,32,119,101,105,103,104,116,32,116,114,117,101,32,102,97,108,115,101,32,108,101,110,32,112,117,115,104,32,102,108,105,112,32,117,110,105,102,111,114,109,32,116,97,98,108,101,32,98,105,110,111,109,105,97,108,32,103,101,111,109,101,116,114,105,99,32,105,110,116,101,114,118,97,108,32,98,101,116,97,32,112,111,115,116,101,114,105,111,114]
def sgText:List UInt8:=[58,61,32,61,61,32,33,61,32,60,61,32,62,61,32,38,38,32,124,124,32,126,32,60,32,62,32,43,32,45,32,42,32,47,32,40,32,41,32,91,32,93,32,123,32,125,32,44,32,59,32,58,32,63,32,46,32,33]

theorem U4:FSem C 96 [] [] fun r st=>r=.ret (.slc (kws.map .str))∧st=[]:=by
 refine FSem.en 2 Tryz.func96 ?_
 simp only [Aj]
 refine WC.go ?_
 refine WC.rs fun K hK=>?_
 simp only [↓EJ,FY,simprocAttr]
 refine CallX.mk (CallW.pure (Aai kwText (by decide) (by decide) kws (by decide)) (by simp only [CL,and_self]) (by simp only [CL,Ce]) ?_)
 simp only [↓EJ,FY,simprocAttr]
 refine hK _ ?_;clear hK K
 refine WC.ret ?_
 simp only [↓EJ,FY,simprocAttr,EQ,EF,Tryz.results96]
 exact An (by simp only [CL,Ce]) rfl
theorem signs_sem:FSem C 98 [] [] fun r st=>r=.ret (.slc (sgs.map .str))∧st=[]:=by
 refine FSem.en 2 Tryz.func98 ?_
 simp only [Aj]
 refine WC.go ?_
 refine WC.rs fun K hK=>?_
 simp only [↓EJ,FY,simprocAttr]
 refine CallX.mk (CallW.pure (Aai sgText (by decide) (by decide) sgs (by decide)) (by simp only [CL,and_self]) (by simp only [CL,Ce]) ?_)
 simp only [↓EJ,FY,simprocAttr]
 refine hK _ ?_;clear hK K
 refine WC.ret ?_
 simp only [↓EJ,FY,simprocAttr,EQ,EF,Tryz.results98]
 exact An (by simp only [CL,Ce]) rfl
theorem toks_sem (s:List UInt8):FSem C 37 [.str s] [] fun r st=>r=.ret (.tuple [V5 (Bx s).1,pl (Bx s).2.1.1 (Bx s).2.1.2,.int .i64 (Bx s).2.2])∧st=[]:=X7 U4 signs_sem s
/-! ### tokens of constant texts -/
def Mx:Nat→List UInt8→Nat→Nat→Nat→List Tok→List Tok × (Nat × Nat) × Nat
 | 0,_,_,_,_,_=>([],(0,0),0)
 | k + 1,s,a,l,c,acc =>
   if a < s.length then
    if Ee (gb s a)=true then Mx k s (a + 1) (adv s 1 (a,l,c)).2.1 (adv s 1 (a,l,c)).2.2 acc
    else if gb s a=35 then
     Mx k s (max (a + 1) (adv s (Ci Cg s a).length (a,l,c)).1) (adv s (Ci Cg s a).length (a,l,c)).2.1 (adv s (Ci Cg s a).length (a,l,c)).2.2 acc
    else if (Bd s a).2.2=0 then
     Mx k s (max (a + 1) (adv s (Bd s a).2.1.length (a,l,c)).1) (adv s (Bd s a).2.1.length (a,l,c)).2.1 (adv s (Bd s a).2.1.length (a,l,c)).2.2 (acc ++ [((Bd s a).1,(Bd s a).2.1,l,c)])
    else ([],(l,c),(Bd s a).2.2)
   else (acc ++ [(5,[],l,c)],(0,0),0)
theorem U3 (s:List UInt8):∀ k a l c acc,s.length - a < k→Gv s a l c acc=Mx k s a l c acc:=by
 intro k
 induction k with
 | zero=>intro a l c acc h;omega
 | succ k ih =>
   intro a l c acc h
   unfold Gv Mx
   by_cases ha:a < s.length
   ·rw [dif_pos ha,if_pos ha]
    split
    ·exact ih _ _ _ _ (by omega)
    ·split
     ·exact ih _ _ _ _ (by omega)
     ·split
      ·exact ih _ _ _ _ (by omega)
      ·rfl
   ·rw [dif_neg ha,if_neg ha]
theorem Q3 {s:List UInt8} {r:List Tok × (Nat × Nat) × Nat} (hs:s.length≤8192) (h:Mx (s.length + 1) s 0 1 1 []=r):Bx s=r:=by
 rw [Bx,if_neg (by omega),U3 s (s.length + 1) 0 1 1 [] (by omega)];exact h

def awText:List UInt8:=[120,49,32,58,61,32,51,59]
theorem aw_tokens:Bx awText=([(1,[120,49],1,1),(4,[58,61],1,4),(2,[51],1,7),(4,[59],1,8),(5,[],1,9)],(0,0),0):=Q3 (by decide) (by decide +kernel)

end Go.LexSem
