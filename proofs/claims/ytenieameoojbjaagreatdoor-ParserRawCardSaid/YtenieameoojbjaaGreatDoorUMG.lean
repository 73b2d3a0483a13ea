/-
 Texts joined: NumA NumB NumC NumD NumE NumF NumG NumH.
-/
import Derived.Test.YtenieameoojbjaaGreatDoorUME
import Derived.Test.YtenieameoojbjaaGreatDoorUMW
import Derived.Test.YtenieameoojbjaaGreatDoorUMF
import Derived.Test.YtenieameoojbjaaGreatDoorUMA
import Derived.Lib.ItoaNum
set_option linter.unusedVariables false
set_option linter.unusedSimpArgs false
set_option linter.loopingSimpArgs false
set_option maxRecDepth 8000
namespace Go.LexSem
open Go Go.V Go.Proofs Go.Num

theorem Oz (x y c:Nat) (hx:x < B) (hy:y < B) (hc:c < B) :
  FSem C 197 [lb x,lb y,lb c] [] fun r st=>r=.ret (.tuple [lb ((x + y + c) % B),lb ((x + y + c) / B)])∧st=[]:=by
 rw [Bv] at hx hy hc
 refine FSem.en 22 Tryz.func197 ?_
 simp only [Aj]
 refine WC.go ?_
 refine WC.rs fun K hK=>?_
 simp (disch:=omega) only [↓EJ,FY,simprocAttr,w64,Bh,lb]
 refine hK _ (Aa [6,7,8] ?_);clear hK K
 refine WC.go ?_
 refine WC.rs fun K hK=>?_
 simp (disch:=omega) only [↓EJ,FY,simprocAttr,w64,Bh,Dd,wu32]
 refine hK _ ?_;clear hK K
 refine WC.ret ?_
 simp only [↓EJ,FY,simprocAttr,EQ,EF,Tryz.results197]
 refine An (by simp only [CL,As,and_self]) ?_
 simp only [lb,Iv,Bv,Int.natCast_add,Int.natCast_mul,Int.natCast_emod,Int.natCast_ediv,Int.cast_ofNat_Int]
theorem mul32_sem (x y:Nat) (hx:x < B) (hy:y < B) :
  FSem C 198 [lb x,lb y] [] fun r st=>r=.ret (.tuple [lb (x * y / B),lb (x * y % B)])∧st=[]:=by
 have hm:x * y≤(B - 1) * (B - 1):=Nat.mul_le_mul (Nat.le_sub_one_of_lt hx) (Nat.le_sub_one_of_lt hy)
 rw [Bv] at hx hy hm
 refine FSem.en 17 Tryz.func198 ?_
 simp only [Aj]
 refine WC.go ?_
 refine WC.rs fun K hK=>?_
 simp (disch:=omega) only [↓EJ,FY,simprocAttr,w64,Bh,lb,← Int.natCast_mul]
 refine hK _ ?_;clear hK K
 refine WC.rs fun K hK=>?_
 simp (disch:=omega) only [↓EJ,FY,simprocAttr,w64,Bh,Dd,wu32]
 refine hK _ (Aa [4,5] ?_);clear hK K
 refine WC.ret ?_
 simp only [↓EJ,FY,simprocAttr,EQ,EF,Tryz.results198]
 refine An (by simp only [CL,As,and_self]) ?_
 simp only [lb,Iv,Bv,Int.natCast_add,Int.natCast_mul,Int.natCast_emod,Int.natCast_ediv,Int.cast_ofNat_Int]

theorem Fu (l:List Nat) (hl:lim l) (hn:l.length≤1000000):FSem C 167 [lbs l] [] fun r st=>r=.ret (lbs (toL (Ai l)))∧st=[]:=by
 refine FSem.en 21 Tryz.func167 ?_
 simp only [Aj]
 refine WC.go ?_
 refine WC.bs fun K1 hK1=>?_
 refine WC.loop (X:=Nat) (fun k=>⟨[(2,.nils),(0,lbs (l.take k))],[],[],[]⟩) (fun k=>k≤l.length∧∀ j,k≤j→l.getD j 0=0) (fun k=>k) l.length [] ⟨Nat.le_refl _,fun j hj=>by simp [List.getD_eq_getElem?_getD,List.getElem?_eq_none hj]⟩ ?_ ?_
 ·exact Conv.all (by simp only [EC,simprocAttr,lbs,Ab l _,List.take_length])
 ·rintro k ⟨h1,h2⟩
  have hlk:(l.take k).length=k:=by simp;omega
  refine Am fun K2 hK2=>?_
  refine Pr ⟨[(14,.bool (decide (0 < k) && decide (l.getD (k - 1) 0=0))),(2,.nils),(0,lbs (l.take k))],[],[],[]⟩ ?_ ?_
  ·simp only [↓EJ,FY,simprocAttr,lbs,List.length_map,hlk]
   refine Eb (fun h=>?_) (fun h=>?_)
   ·have h0:0 < k:=by simpa using h
    have hw:IntKind.wrap .i64 ((k:Int) - 1)=((k - 1:Nat):Int):=by rw [w64 (by omega) (by omega)];omega
    have hg:gi ((l.take k).map lb) (k - 1)=.int .u32 (l.getD (k - 1) 0):=by
     rw [Df (by omega),List.getD_eq_getElem?_getD,List.getElem?_take,if_pos (by omega),← List.getD_eq_getElem?_getD];rfl
    simp only [↓EJ,FY,simprocAttr,h,hw,hg,Int.toNat_natCast,List.length_map,hlk]
    refine ⟨by omega,by omega,[],?_⟩
    refine ⟨by simp,?_,by simp only [↓EJ,FY,simprocAttr,ER,Ab _ _],by simp only [↓EJ,FY,simprocAttr,ER,pick,Ab _ _],rfl⟩
    simp only [↓EJ,FY,simprocAttr,ER,and_self,Ab _ _]
    rw [show decide (0 < k)=true by simpa using h0,Bool.true_and];congr 1;rw [decide_eq_decide];omega
   ·have h0:¬ 0 < k:=by simpa using h
    simp only [↓EJ,FY,simprocAttr,h,Bool.not_true]
    refine ⟨[],?_⟩
    refine ⟨by simp,?_,by simp only [↓EJ,FY,simprocAttr,ER,Ab _ _],by simp only [↓EJ,FY,simprocAttr,ER,pick,Ab _ _],rfl⟩
    simp only [↓EJ,FY,simprocAttr,ER,and_self,Ab _ _]
    simp [h0]
  ·refine WC.cond rfl (fun h=>?_) fun h=>?_
   ·have hc:0 < k∧l.getD (k - 1) 0=0:=by simpa only [Bool.and_eq_true,decide_eq_true_eq] using h
    have hw:IntKind.wrap .i64 ((k:Int) - 1)=((k - 1:Nat):Int):=by rw [w64 (by omega) (by omega)];omega
    refine WC.skip (hK2 _ ?_)
    refine WC.b1 ?_
    refine WC.r1 ?_
    simp only [↓EJ,FY,simprocAttr,lbs,List.length_map,hlk,hw,Int.toNat_natCast]
    repeat refine And.intro (by omega) ?_
    refine ⟨Ot,?_⟩
    try simp only [EQ,simprocAttr]
    refine ⟨k - 1,[],⟨by omega,fun j hj=>?_⟩,by omega,?_⟩
    ·rcases Nat.lt_or_ge j k with h' | h'
     ·rw [show j=k - 1 by omega];exact hc.2
     ·exact h2 j h'
    ·exact Conv.all (by simp only [EC,simprocAttr,lbs,Ab _ _,← List.map_take,List.take_take,Nat.min_eq_left (Nat.sub_le k 1)])
   ·have hc:k=0∨l.getD (k - 1) 0≠0:=by
     rcases Nat.eq_zero_or_pos k with h0 | h0
     ·exact .inl h0
     ·refine .inr fun hz=>?_
      rw [hz] at h;simp [h0] at h
    refine WC.exit ?_
    simp only [EQ,reduceIte,Nat.reduceEqDiff]
    refine hK1 _ ?_
    refine WC.go ?_
    refine WC.ret ?_
    simp only [↓EJ,FY,simprocAttr,EQ,EF,Tryz.results167]
    exact An (by simp only [Al]) (by rw [H0 hl h1 h2 hc])

theorem O7 (l:List Nat) (hl:lim l) (hn:l.length≤1000000):FSem C 167 [.ref (.o 0) 0 l.length] [.row (l.map lb) 1 151] fun r st=>∃ k,k≤l.length∧l.take k=toL (Ai l)∧r=.ret (.ref (.o 0) 0 k)∧st=[.row (l.map lb) 1 151]:=by
 refine FSem.en 21 Tryz.func167 ?_
 simp only [Aj]
 refine WC.go ?_
 refine WC.bs fun K1 hK1=>?_
 refine WC.loop (X:=Nat) (fun k=>⟨[(2,.nils),(0,.ref (.o 0) 0 k)],[.row (l.map lb) 1 151],[],[]⟩) (fun k=>k≤l.length∧∀ j,k≤j→l.getD j 0=0) (fun k=>k) l.length [] ⟨Nat.le_refl _,fun j hj=>by simp [List.getD_eq_getElem?_getD,List.getElem?_eq_none hj]⟩ ?_ ?_
 ·exact Conv.all (by simp only [EC,simprocAttr,Ab l _])
 ·rintro k ⟨h1,h2⟩
  refine Am fun K2 hK2=>?_
  refine Pr ⟨[(14,.bool (decide (0 < k) && decide (l.getD (k - 1) 0=0))),(2,.nils),(0,.ref (.o 0) 0 k)],[.row (l.map lb) 1 151],[],[]⟩ ?_ ?_
  ·simp only [↓EJ,FY,simprocAttr]
   refine Eb (fun h=>?_) (fun h=>?_)
   ·have h0:0 < k:=by simpa using h
    have hw:IntKind.wrap .i64 ((k:Int) - 1)=((k - 1:Nat):Int):=by rw [w64 (by omega) (by omega)];omega
    have hg:(l.map lb)[k - 1]? = some (.int .u32 (l.getD (k - 1) 0)):=Cc (by omega)
    simp only [↓EJ,FY,simprocAttr,h,hw,hg,Int.toNat_natCast]
    refine ⟨by omega,by omega,[],?_⟩
    refine ⟨by simp,?_,by simp only [↓EJ,FY,simprocAttr,ER,Ab _ _],by simp only [↓EJ,FY,simprocAttr,ER,pick,Ab _ _],rfl⟩
    simp only [↓EJ,FY,simprocAttr,ER,and_self,Ab _ _]
    rw [show decide (0 < k)=true by simpa using h0,Bool.true_and];congr 1;rw [decide_eq_decide];omega
   ·have h0:¬ 0 < k:=by simpa using h
    simp only [↓EJ,FY,simprocAttr,h,Bool.not_true]
    refine ⟨[],?_⟩
    refine ⟨by simp,?_,by simp only [↓EJ,FY,simprocAttr,ER,Ab _ _],by simp only [↓EJ,FY,simprocAttr,ER,pick,Ab _ _],rfl⟩
    simp only [↓EJ,FY,simprocAttr,ER,and_self,Ab _ _]
    simp [h0]
  ·refine WC.cond rfl (fun h=>?_) fun h=>?_
   ·have hc:0 < k∧l.getD (k - 1) 0=0:=by simpa only [Bool.and_eq_true,decide_eq_true_eq] using h
    have hw:IntKind.wrap .i64 ((k:Int) - 1)=((k - 1:Nat):Int):=by rw [w64 (by omega) (by omega)];omega
    refine WC.skip (hK2 _ ?_)
    refine WC.b1 ?_
    refine WC.r1 ?_
    simp only [↓EJ,FY,simprocAttr,hw,Int.toNat_natCast]
    repeat refine And.intro (by omega) ?_
    try simp only [EQ,simprocAttr]
    refine ⟨k - 1,[],⟨by omega,fun j hj=>?_⟩,by omega,?_⟩
    ·rcases Nat.lt_or_ge j k with h' | h'
     ·rw [show j=k - 1 by omega];exact hc.2
     ·exact h2 j h'
    ·exact Conv.all (by simp only [EC,simprocAttr,Ab _ _])
   ·have hc:k=0∨l.getD (k - 1) 0≠0:=by
     rcases Nat.eq_zero_or_pos k with h0 | h0
     ·exact .inl h0
     ·refine .inr fun hz=>?_
      rw [hz] at h;simp [h0] at h
    refine WC.exit ?_
    simp only [EQ,reduceIte,Nat.reduceEqDiff]
    refine hK1 _ ?_
    refine WC.go ?_
    refine WC.ret ?_
    simp only [↓EJ,FY,simprocAttr,EQ,EF,Tryz.results167]
    refine ⟨[],.ref (.o 0) 0 k,_,List.nodup_nil,by simp,by simp,rfl,fun j x hx=>?_,k,h1,H0 hl h1 h2 hc,rfl,rfl⟩
    cases j with
    | zero=>simp at hx;subst hx;simp [Ny,Ao,Cu,Ab l _]
    | succ j=>simp at hx
end Go.LexSem
set_option maxRecDepth 8000
namespace Go.LexSem
open Go Go.V Go.Proofs Go.Num

theorem Tu (l:List Nat) (hn:l.length≤1000000):FSem C 208 [lbs l] [] fun r st=>r=.ret (lbs l)∧st=[]:=by
 refine FSem.en 8 Tryz.func208 ?_
 simp only [Aj]
 refine WC.go ?_
 refine Am fun K1 hK1=>?_
 refine WC.nc (xs:=l.map lb) ⟨_,Tryz.underlying48⟩ rfl (by decide) (by decide) fun b hb=>?_
 refine WC.cond rfl (fun h=>?_) fun h=>?_
 ·obtain rfl:l=[]:=by
   cases l with
   | nil=>rfl
   | cons x l=>rw [hb (by simp)] at h;cases h
  refine WC.go ?_
  refine Vg 2 rfl ?_
  refine WC.ret ?_
  simp only [↓EJ,FY,simprocAttr,EQ,EF,Tryz.results208]
  exact An (by simp only [Al]) rfl
 ·refine WC.skip (hK1 _ ?_)
  cases l with
  | nil =>
    refine WC.rs fun K hK=>?_
    simp only [↓EJ,FY,simprocAttr,lbs,List.length_nil]
    refine hK _ ?_;clear hK K
    refine WC.frz 2 0 rfl rfl (by simp) ?_
    refine WC.ret ?_
    simp only [↓EJ,FY,simprocAttr,EQ,EF,Tryz.results208]
    exact An (by simp only [Al]) rfl
  | cons x l =>
    refine WC.rs fun K hK=>?_
    simp only [↓EJ,FY,simprocAttr,lbs,List.map_cons,lb]
    have hn':(l.map lb).length≤999999:=by simp at hn ⊢;omega
    refine ⟨by omega,Ot,by omega,by omega,?_⟩
    refine hK _ ?_;clear hK K
    refine WC.frz 2 1 rfl rfl (by simp) ?_
    refine WC.ret ?_
    simp only [↓EJ,FY,simprocAttr,EQ,EF,Tryz.results208]
    exact An (by simp only [Al]) (by rw [List.take_length];rfl)

theorem W0 (l:List Nat) (hl:lim l) (hn:l.length≤1000000):FSem C 201 [lbs l] [] fun r st=>r=.ret (lbs (toL (Ai l)))∧st=[]:=by
 have hlen:(toL (Ai l)).length≤1000000:=Nat.le_trans (Gl (Ck hl)) hn
 refine FSem.en 6 Tryz.func201 ?_
 simp only [Aj]
 refine WC.go ?_
 refine WC.rs fun K hK=>?_
 simp only [↓EJ,FY,simprocAttr]
 refine Bg (Fu l hl hn) ?_
 simp only [↓EJ,FY,simprocAttr]
 refine Bg (Tu _ hlen) ?_
 simp only [↓EJ,FY,simprocAttr]
 refine hK _ ?_;clear hK K
 refine WC.ret ?_
 simp only [↓EJ,FY,simprocAttr,EQ,EF,Tryz.results201]
 exact An (by simp only [Al]) rfl

/-- A call that is handed one block and hands back what may lead to it. -/
theorem Kc {g:FuncId} {args args':List PVal} {σ:St} {K KP:PVal→St→Prop} {r:Ref} {b:Blk} {R':PVal→Prop} (spec:FSem C g args' [b] fun q st=>∃ p,R' p∧q=.ret p∧st=[b]) (hb:Ao σ.o σ.l r=some b) (hcb:D8 b)
  (ha:args=Ba (A4 [r] σ.l.length) args') (h:∀ p,R' p→K (ren (Ec [r] σ.l.length) p) (A1 σ r b)):CallW C g args σ K KP :=
 CallW.of spec [r] (by simp) ha rfl (fun j r' k hr hk=>by
  cases j with
  | zero=>simp at hr hk;subst hr hk;rw [hcb];exact hb
  | succ j=>simp at hr) fun q st' ⟨p,h0,h1,h2⟩=>by
  subst h1 h2
  have e:By σ [r] [b]=A1 σ r b:=by simp [By]
  simp only [List.map_cons,List.map_nil,hcb _,e]
  exact h p h0

theorem val_two (u:Nat):Ai [u % B,u / B]=u:=by
 simp only [Ai,Nat.mul_zero,Nat.add_zero];exact Nat.mod_add_div u B
theorem Nx (u:Nat) (hu:u < B * B):FSem C 209 [.int .u64 u] [] fun r st=>r=.ret (lbs (toL u))∧st=[]:=by
 have hB:u / B < B:=by rw [Nat.div_lt_iff_lt_mul Bz];exact hu
 have hm:u % B < B:=Nat.mod_lt _ Bz
 have hlim:lim [u % B,u / B]:=fun x hx=>by simp at hx;rcases hx with rfl | rfl <;> assumption
 have e1:((u:Int) % 4294967296)=((u % B:Nat):Int):=by rw [Bv];omega
 have e2:((u:Int) / 4294967296) % 4294967296=((u / B:Nat):Int):=by rw [Bv] at hB ⊢;omega
 refine FSem.en 10 Tryz.func209 ?_
 simp only [Aj]
 refine WC.go ?_
 refine WC.rs fun K hK=>?_
 simp only [↓EJ,FY,simprocAttr,Dd,Iv,e1,e2]
 refine CallX.mk (Kc (r:=.l 0) (R':=fun p=>∃ k,k≤2∧[u % B,u / B].take k=toL u∧p=.ref (.o 0) 0 k) (b:=.row ([u % B,u / B].map lb) 1 151) (args':=[.ref (.o 0) 0 2]) ?_ rfl (fun f=>by simp only [Cu,Ab _ f]) (by simp [Ba,ren,A4]) ?_)
 ·have h:=O7 [u % B,u / B] hlim (by simp)
  refine ⟨h.1,fun V vs hM hv=>(h.2 V vs hM hv).mono fun e w' ⟨V',st',r,h1,h2,h3,h4,h5,k,h6,h7,h8,h9⟩=>⟨V',st',r,h1,h2,h3,h4,h5,_,⟨k,h6,by rw [h7,val_two],rfl⟩,h8,h9⟩⟩
 ·rintro p ⟨k,hk,hk2,rfl⟩
  simp only [↓EJ,FY,simprocAttr,ren,Ec,List.length_cons,List.length_nil,List.getD_cons_zero]
  refine hK _ (Aa [2] ?_);clear hK K
  refine WC.frz 2 0 rfl rfl (by simpa using hk) ?_
  refine WC.ret ?_
  simp only [↓EJ,FY,simprocAttr,EQ,EF,Tryz.results209]
  refine An (q:=lbs (toL u)) (by simp only [Al]) ?_
  rw [←hk2,lbs,List.map_take]
  rfl

theorem Mp (l:List Nat) (hl:lim l) (h2:l.length≤2):FSem C 168 [lbs l] [] fun r st=>r=.ret (.int .u64 (Ai l))∧st=[]:=by
 have hv:Ai l < B ^ 2:=Nat.lt_of_lt_of_le (Ck hl) (Nat.pow_le_pow_right Bz h2)
 refine FSem.en 22 Tryz.func168 ?_
 simp only [Aj]
 refine WC.go ?_
 refine WC.go ?_
 refine Am fun K1 hK1=>?_
 refine WC.rs fun K hK=>?_
 simp only [↓EJ,FY,simprocAttr,lbs,List.length_map]
 refine hK _ ?_;clear hK K
 refine WC.b1 ?_
 refine WC.loop (X:=Nat) (fun i=>⟨[(8,.int .i64 i),(7,.int .i64 l.length),(6,.slc (l.map lb)),(3,.int .u64 (Ai (l.take i)))],[],[],[]⟩) (fun i=>i≤l.length) (fun i=>l.length - i) 0 [] (Nat.zero_le _) ?_ ?_
 ·exact Conv.all (by simp only [EC,simprocAttr,Ab l _,Ai,Int.cast_ofNat_Int])
 ·rintro i hi
  refine WC.go ?_
  refine WC.cs (c:=.tmp 9) rfl fun K2 hK2=>⟨fun h=>?_,fun h=>?_⟩
  ·have hlt:i < l.length:=by simpa using h
   have hg:=Df hlt
   have hx:l.getD i 0 < B:=Be hl i
   have hts:=Mb (l:=l) hlt
   refine WC.skip (hK2 _ ?_)
   refine WC.bs fun K3 hK3=>?_
   refine WC.rs fun K hK=>?_
   simp only [↓EJ,FY,simprocAttr,List.length_map,hg,lb]
   repeat refine And.intro (by omega) ?_
   refine hK _ ?_;clear hK K
   have hy:=Ck (Gk hl i)
   generalize l.getD i 0=x at hx hts
   rw [Bv] at hx
   have hor:Go.bits .or .u64 (Ai (l.take i):Int) (IntKind.wrap .u64 ((x:Int) * 2 ^ min (32 * (i:Int)).toNat IntKind.u64.bits))=((Ai (l.take (i + 1)):Nat):Int):=by
    rw [hts]
    have hi2:i=0∨i=1:=by omega
    rcases hi2 with rfl | rfl
    ·simp only [List.take_zero,Ai,Nat.pow_zero,Nat.one_mul,Nat.zero_add]
     rw [show (x:Int) * 2 ^ min (32 * ((0:Nat):Int)).toNat IntKind.u64.bits=(x:Int) by simp,Bh (by omega) (by omega)]
     have:=u64_or_nat 0 x (by decide) (by omega)
     rw [Nat.zero_or] at this
     exact this
    ·rw [List.length_take,Nat.min_eq_left (by omega),Nat.pow_one,Bv] at hy
     generalize Ai (l.take 1)=y at hy
     rw [show (x:Int) * 2 ^ min (32 * ((1:Nat):Int)).toNat IntKind.u64.bits=((x * 4294967296:Nat):Int) by
      rw [show (2:Int) ^ min (32 * ((1:Nat):Int)).toNat IntKind.u64.bits=4294967296 by decide];omega,Bh (by omega) (by omega),u64_or_nat y (x * 4294967296) (by omega) (by omega),Nat.or_comm,
      nat_join 32 _ _ (by omega) (by omega),Nat.pow_one,Bv]
     omega
   refine WC.r1 ?_
   simp (disch:=omega) only [↓EJ,FY,simprocAttr,w64,Bh,hor]
   repeat refine And.intro (by omega) ?_
   refine hK3 _ ?_
   refine WC.r1 ?_
   simp (disch:=omega) only [↓EJ,FY,simprocAttr,w64,Bh]
   try simp only [EQ,simprocAttr]
   refine ⟨i + 1,[],by omega,by omega,?_⟩
   exact Conv.all (by simp only [EC,simprocAttr,Ab l _,Int.natCast_add])
  ·refine WC.exit (hK1 _ ?_)
   have he:i=l.length:=by simp at h;omega
   subst he
   refine WC.go (Aa [2,3,6,7,8] ?_)
   refine WC.ret ?_
   simp only [↓EJ,FY,simprocAttr,EQ,EF,Tryz.results168]
   exact An (by simp only [CL]) (by rw [List.take_length])
end Go.LexSem
set_option maxHeartbeats 4000000
set_option maxRecDepth 8000
namespace Go.LexSem
open Go Go.V Go.Proofs Go.Num

theorem Ie {l:List Nat} (hl:lim l):(toL (Ai l)).length≤l.length:=Gl (Ck hl)
theorem Y3 (l:List Nat) (hl:lim l) (hn:l.length≤1000000):FSem C 144 [lbs l] [] fun r st=>r=.ret (.tuple (if Ai l < 9223372036854775808 then [.int .i64 (Ai l),.int .i64 0] else [.int .i64 0,.int .i64 1]))∧st=[]:=by
 have hlen:(toL (Ai l)).length≤1000000:=Nat.le_trans (Ie hl) hn
 have htl:=Bo (Ai l)
 have h3:2 < (toL (Ai l)).length→18446744073709551616≤Ai l:=fun h=>by
  have:=Ro h
  rwa [show B ^ 2=18446744073709551616 by decide] at this
 have h21:(toL (Ai l)).length=2→Ai l=(toL (Ai l)).getD 0 0 + 4294967296 * (toL (Ai l)).getD 1 0:=fun h=>by
  have h1:=A5 (l:=toL (Ai l)) (i:=2) (by omega)
  rw [Br,Aq,Aq] at h1
  simp only [List.take_zero,Ai,Nat.pow_zero,Nat.one_mul,Nat.zero_add,Nat.pow_one,Bv] at h1
  exact h1.symm
 have h1s:(toL (Ai l)).length < 2→Ai l < 4294967296:=fun h=>by
  have:=Ck (Bo (Ai l))
  rw [Br] at this
  exact Nat.lt_of_lt_of_le this (Nat.le_trans (Nat.pow_le_pow_right Bz (show (toL (Ai l)).length≤1 by omega)) (by decide))
 have hv2:Ai l < B * B→FSem C 168 [lbs (toL (Ai l))] [] fun r st=>r=.ret (.int .u64 (Ai l))∧st=[]:=fun h=>by
  have:=Mp (toL (Ai l)) htl (Gl (by rw [Nat.pow_succ,Nat.pow_one];exact h))
  rwa [Br] at this
 refine FSem.en 24 Tryz.func144 ?_
 simp only [Aj]
 refine WC.go ?_
 refine WC.rs fun K hK=>?_
 simp only [↓EJ,FY,simprocAttr]
 refine Bg (Fu l hl hn) ?_
 simp only [↓EJ,FY,simprocAttr]
 refine hK _ ?_;clear hK K
 have g0:=Be htl 0
 have g1:=Be htl 1
 generalize Ai l=v at *
 generalize toL v=t at *
 rw [Bv] at g0 g1
 refine Am fun K1 hK1=>?_
 refine Pr ⟨[(20,.bool (!decide (v < 9223372036854775808))),(0,lbs t),(2,.int .i64 0),(3,.int .i64 0)],[],[],[]⟩ ?_ ?_
 ·have hg:2≤t.length→gi (t.map lb) 1=.int .u32 (t.getD 1 0):=fun h=>Df (by omega)
  by_cases c3:2 < t.length
  ·have c3i:((2:Int) < (t.length:Int))=True:=eq_true (by omega)
   simp only [↓EJ,FY,simprocAttr,lbs,List.length_map,c3i]
   refine ⟨[],?_⟩
   refine ⟨by simp,?_,by simp only [↓EJ,FY,simprocAttr,ER,Ab _ _],by simp only [↓EJ,FY,simprocAttr,ER,pick,Ab _ _],rfl⟩
   simp only [↓EJ,FY,simprocAttr,ER,and_self,Ab _ _]
   have:=h3 c3
   simp;omega
  ·have c3i:((2:Int) < (t.length:Int))=False:=eq_false (by omega)
   by_cases c2:t.length=2
   ·have c2i:((t.length:Int)=2)=True:=eq_true (by omega)
    have hg1:=hg (by omega)
    simp only [↓EJ,FY,simprocAttr,lbs,List.length_map,c3i,c2i,hg1,shr32_31,Bool.not_false]
    repeat refine And.intro (by omega) ?_
    refine ⟨[],?_⟩
    refine ⟨by simp,?_,by simp only [↓EJ,FY,simprocAttr,ER,Ab _ _],by simp only [↓EJ,FY,simprocAttr,ER,pick,Ab _ _],rfl⟩
    simp only [↓EJ,FY,simprocAttr,ER,and_self,Ab _ _]
    have:=h21 c2
    congr 2
    exact decide_eq_decide.2 (by omega)
   ·have c2i:((t.length:Int)=2)=False:=eq_false (by omega)
    simp only [↓EJ,FY,simprocAttr,lbs,List.length_map,c3i,c2i,Bool.not_false,Bool.not_true]
    refine ⟨[],?_⟩
    refine ⟨by simp,?_,by simp only [↓EJ,FY,simprocAttr,ER,Ab _ _],by simp only [↓EJ,FY,simprocAttr,ER,pick,Ab _ _],rfl⟩
    simp only [↓EJ,FY,simprocAttr,ER,and_self,Ab _ _]
    have:=h1s (by omega)
    simp;omega
 refine WC.cond rfl (fun h=>?_) fun h=>?_
 ·have hv:¬ v < 9223372036854775808:=by simpa using h
  refine WC.go ?_
  refine WC.ret ?_
  simp only [↓EJ,FY,simprocAttr,EQ,EF,Tryz.results144]
  refine An (by simp only [CL];split <;> simp only [CL,and_self]) ?_
  rw [if_neg hv]
 ·have hv:v < 9223372036854775808:=by simpa using h
  refine WC.skip (hK1 _ ?_)
  refine WC.rs fun K hK=>?_
  simp only [↓EJ,FY,simprocAttr]
  refine Bg (hv2 (Nat.lt_trans hv (by decide))) ?_
  simp (disch:=omega) only [↓EJ,FY,simprocAttr,w64,Bh]
  refine hK _ ?_;clear hK K
  refine WC.ret ?_
  simp only [↓EJ,FY,simprocAttr,EQ,EF,Tryz.results144]
  refine An (by simp only [CL];split <;> simp only [CL,and_self]) ?_
  rw [if_pos hv]

/-- How two numbers stand. -/
def Kl (a b:Nat):Int:=if a < b then -1 else if a=b then 0 else 1
theorem Y4 (l m:List Nat) (hl:lim l) (hm:lim m) (hnl:l.length≤1000000) (hnm:m.length≤1000000):FSem C 200 [lbs l,lbs m] [] fun r st=>r=.ret (.int .i64 (Kl (Ai l) (Ai m)))∧st=[]:=by
 have hll:(toL (Ai l)).length≤1000000:=Nat.le_trans (Ie hl) hnl
 have hml:(toL (Ai m)).length≤1000000:=Nat.le_trans (Ie hm) hnm
 refine FSem.en 47 Tryz.func200 ?_
 simp only [Aj]
 refine WC.go ?_
 refine WC.rs fun K hK=>?_
 simp only [↓EJ,FY,simprocAttr]
 refine Bg (Fu l hl hnl) ?_
 simp only [↓EJ,FY,simprocAttr]
 refine Bg (Fu m hm hnm) ?_
 simp only [↓EJ,FY,simprocAttr]
 refine hK _ ?_;clear hK K
 generalize Ai l=a at *
 generalize Ai m=b at *
 have hla:=Bo a
 have hlb:=Bo b
 have hva:=Br a
 have hvb:=Br b
 have hlen1:(toL a).length < (toL b).length→a < b:=Qk
 have hlen2:(toL b).length < (toL a).length→b < a:=Qk
 generalize toL a=s at *
 generalize toL b=t at *
 refine Am fun K1 hK1=>?_
 refine WC.rs fun K hK=>?_
 simp only [↓EJ,FY,simprocAttr,lbs,List.length_map]
 refine hK _ (Aa [0,1,4,5,14,19,24,27,37] ?_);clear hK K
 refine WC.cond rfl (fun h=>?_) fun h=>?_
 ·have hne:s.length≠t.length:=by intro e;simp [e] at h
  refine Am fun K2 hK2=>?_
  refine WC.go ?_
  refine WC.cond rfl (fun h=>?_) fun h=>?_
  ·have hlt:s.length < t.length:=by simpa using h
   refine WC.go ?_
   refine WC.ret ?_
   simp only [↓EJ,FY,simprocAttr,EQ,EF,Tryz.results200]
   refine An (by simp only [CL]) ?_
   rw [Kl,if_pos (hlen1 hlt)]
  ·have hgt:t.length < s.length:=by simp at h;omega
   refine WC.skip (hK2 _ ?_)
   refine WC.go ?_
   refine WC.ret ?_
   simp only [↓EJ,FY,simprocAttr,EQ,EF,Tryz.results200]
   refine An (by simp only [CL]) ?_
   have:=hlen2 hgt
   rw [Kl,if_neg (by omega),if_neg (by omega)]
 ·have he:s.length=t.length:=by
   have:((s.length:Int)=t.length):=by simpa using h
   omega
  refine WC.skip (hK1 _ ?_)
  refine Am fun K3 hK3=>?_
  refine WC.rs fun K hK=>?_
  simp (disch:=omega) only [↓EJ,FY,simprocAttr,w64,Bh,List.length_map]
  refine hK _ (Aa [0,1,4,5,24,27,37] ?_);clear hK K
  refine WC.b1 ?_
  refine WC.loop (X:=Nat) (fun i=>⟨[(5,.int .i64 ((i:Int) - 1)),(4,.int .i64 0),(1,.slc (t.map lb)),(0,.slc (s.map lb))],[],[],[]⟩) (fun i=>i≤s.length∧s.drop i=t.drop i) (fun i=>i) s.length [] ⟨Nat.le_refl _,by rw [List.drop_length,he,List.drop_length]⟩ ?_ ?_
  ·exact Conv.all (by simp only [EC,simprocAttr,Ab s _,Ab t _])
  ·rintro i ⟨h1,h2⟩
   refine Am fun K4 hK4=>?_
   refine WC.go ?_
   refine WC.cond rfl (fun h=>?_) fun h=>?_
   ·have hi:0 < i:=by simp at h;omega
    have e1:((i:Int) - 1).toNat=i - 1:=by omega
    have gs:gi (s.map lb) (i - 1)=.int .u32 (s.getD (i - 1) 0):=Df (by omega)
    have gt':gi (t.map lb) (i - 1)=.int .u32 (t.getD (i - 1) 0):=Df (by omega)
    have hup:s.drop (i - 1 + 1)=t.drop (i - 1 + 1):=by rw [show i - 1 + 1=i by omega];exact h2
    refine WC.skip (hK4 _ ?_)
    refine WC.bs fun K5 hK5=>?_
    refine WC.b1 ?_
    refine WC.dg [⟨0,0,false,[]⟩,⟨1,0,false,[]⟩,⟨2,0,false,[]⟩,⟨3,0,false,[]⟩,⟨4,0,false,[]⟩,⟨5,0,false,[]⟩,⟨6,0,false,[]⟩,⟨7,0,false,[]⟩,⟨8,0,false,[]⟩,⟨9,0,false,[]⟩] [0,0,3,7,0,0,48,112,255,511] fun K hK=>?_
    simp only [↓EJ,FY,simprocAttr,List.length_map,gs,gt',e1]
    repeat refine And.intro (by omega) ?_
    refine hK _ (Aa [0,1,4,5,24,27,37] ?_);clear hK K
    refine WC.cond rfl (fun h=>?_) fun h=>?_
    ·have hlt:s.getD (i - 1) 0 < t.getD (i - 1) 0:=by simpa using h
     refine WC.go ?_
     refine WC.ret ?_
     simp only [↓EJ,FY,simprocAttr,EQ,EF,Tryz.results200]
     refine An (by simp only [CL]) ?_
     have:=Vb hla (by omega) he hup hlt
     rw [hva,hvb] at this
     rw [Kl,if_pos this]
    ·have hnlt:¬ s.getD (i - 1) 0 < t.getD (i - 1) 0:=by simpa using h
     refine WC.dg [⟨0,0,false,[]⟩,⟨1,0,false,[]⟩,⟨2,0,false,[]⟩,⟨3,0,false,[]⟩,⟨4,0,false,[]⟩,⟨5,0,false,[]⟩,⟨6,0,false,[]⟩,⟨7,0,false,[]⟩,⟨8,0,false,[]⟩,⟨9,0,false,[]⟩] [0,0,3,7,0,0,48,112,255,511] fun K hK=>?_
     simp only [↓EJ,FY,simprocAttr,List.length_map,gs,gt',e1]
     repeat refine And.intro (by omega) ?_
     refine hK _ (Aa [0,1,4,5,24,27,37] ?_);clear hK K
     refine WC.cond rfl (fun h=>?_) fun h=>?_
     ·have hgt:t.getD (i - 1) 0 < s.getD (i - 1) 0:=by simpa using h
      refine WC.go ?_
      refine WC.ret ?_
      simp only [↓EJ,FY,simprocAttr,EQ,EF,Tryz.results200]
      refine An (by simp only [CL]) ?_
      have:=Vb hlb (by omega) he.symm hup.symm hgt
      rw [hva,hvb] at this
      rw [Kl,if_neg (by omega),if_neg (by omega)]
     ·have hngt:¬ t.getD (i - 1) 0 < s.getD (i - 1) 0:=by simpa using h
      refine WC.skip (hK5 _ ?_)
      refine WC.r1 ?_
      simp (disch:=omega) only [↓EJ,FY,simprocAttr,w64,Bh]
      try simp only [EQ,simprocAttr]
      refine ⟨i - 1,[],⟨by omega,?_⟩,by omega,?_⟩
      ·rw [List.drop_eq_getElem_cons (show i - 1 < s.length by omega),List.drop_eq_getElem_cons (show i - 1 < t.length by omega),hup]
       have e:s.getD (i - 1) 0=t.getD (i - 1) 0:=by omega
       rw [I4 (by omega),I4 (by omega)] at e
       rw [e]
      ·have e2:((i - 1:Nat):Int)=(i:Int) - 1:=by omega
       exact Conv.all (by simp only [EC,simprocAttr,e2,Ab s _,Ab t _])
   ·have hi:i=0:=by simp at h;omega
    subst hi
    rw [List.drop_zero,List.drop_zero] at h2
    refine WC.exit (hK3 _ ?_)
    refine WC.go ?_
    refine WC.ret ?_
    simp only [↓EJ,FY,simprocAttr,EQ,EF,Tryz.results200]
    refine An (by simp only [CL]) ?_
    have:a=b:=by rw [←hva,← hvb,h2]
    rw [Kl,if_neg (by omega),if_pos this]
end Go.LexSem
set_option maxHeartbeats 4000000
set_option maxRecDepth 8000
namespace Go.LexSem
open Go Go.V Go.Proofs Go.Num

theorem lb_set (l:List Nat) (i x:Nat):(l.map lb).set i (lb x)=(l.set i x).map lb:=by rw [List.map_set]
theorem Cn (l:List Nat) (i x:Nat):(l.map lb).set i (.int .u32 (x:Nat))=(l.set i x).map lb:=lb_set l i x
theorem Hm (n:Nat):List.replicate n (PVal.int .u32 0)=(List.replicate n 0).map lb:=by rw [List.map_replicate];rfl
theorem F2 (n:Nat):lim (List.replicate n 0):=fun x hx=>by rw [List.eq_of_mem_replicate hx];exact Bz
theorem Nv (n j:Nat):(List.replicate n 0).getD j 0=0:=by
 rw [List.getD_eq_getElem?_getD,List.getElem?_replicate];split <;> rfl

theorem Y5 (l m:List Nat) (hl:lim l) (hm:lim m) (hnl:l.length≤100000) (hnm:m.length≤100000):FSem C 185 [lbs l,lbs m] [] fun r st=>r=.ret (lbs (toL (Ai l + Ai m)))∧st=[]:=by
 obtain ⟨s,hs⟩:∃ s,s=Ai l + Ai m:=⟨_,rfl⟩
 rw [←hs]
 refine FSem.en 54 Tryz.func185 ?_
 simp only [Aj]
 refine WC.go ?_
 obtain ⟨a,b,ha,hb,hna,hba,hab,hsel⟩:∃ a b:List Nat,lim a∧lim b∧a.length≤100000∧b.length≤a.length∧Ai a + Ai b=s∧((¬ l.length < m.length∧a=l∧b=m)∨(l.length < m.length∧a=m∧b=l)):=by
  by_cases h:l.length < m.length
  ·exact ⟨m,l,hm,hl,hnm,by omega,by omega,.inr ⟨h,rfl,rfl⟩⟩
  ·exact ⟨l,m,hl,hm,hnl,by omega,by omega,.inl ⟨h,rfl,rfl⟩⟩
 refine WC.sj True ⟨[(0,lbs a),(1,lbs b)],[],[],[]⟩ ?_ fun _=>?_
 ·refine WC.rs fun K hK=>?_
  simp only [↓EJ,FY,simprocAttr,lbs,List.length_map]
  refine hK _ ?_;clear hK K
  refine WC.cond rfl (fun h=>?_) fun h=>?_
  ·have hc:l.length < m.length:=by simpa using h
   refine WC.r1 ?_
   simp only [↓EJ,FY,simprocAttr]
   try simp only [EQ,simprocAttr]
   refine ⟨[],?_⟩
   obtain ⟨_,rfl,rfl⟩:=hsel.resolve_left (by omega)
   exact Conv.all (by simp only [EC,simprocAttr,lbs,Ab _ _])
  ·have hc:¬ l.length < m.length:=by simpa using h
   refine WC.skip ?_
   try simp only [EQ,simprocAttr]
   refine ⟨trivial,[],?_⟩
   obtain ⟨_,rfl,rfl⟩:=hsel.resolve_right (by omega)
   exact Conv.all (by simp only [EC,simprocAttr,lbs,Ab _ _])
 clear hsel
 have e1:((a.length:Int) + 1).toNat=a.length + 1:=by omega
 refine WC.rs fun K hK=>?_
 simp (disch:=omega) only [↓EJ,FY,simprocAttr,w64,Bh,lbs,List.length_map,e1]
 repeat refine And.intro (by omega) ?_
 refine hK _ (Aa [0,1,4,5,6,7,8,9,21,22,23,24,31] ?_);clear hK K
 rw [Hm]
 refine WC.go ?_
 refine Am fun K1 hK1=>?_
 refine WC.go ?_
 refine WC.b1 ?_
 refine WC.loop (X:=Nat × List Nat × Nat) (fun x=>⟨[(23,.int .i64 x.1),(22,.int .i64 a.length),(21,.slc (a.map lb)),(6,lb x.2.2),(5,.ref (.l 0) 0 (a.length + 1)),(1,.slc (b.map lb)),(0,.slc (a.map lb))],[],[.row (x.2.1.map lb) 1 151],[]⟩)
  (fun x=>x.1≤a.length∧x.2.1.length=a.length + 1∧lim x.2.1∧x.2.2 < B∧x.2.2≤1∧Ai (x.2.1.take x.1) + B ^ x.1 * x.2.2=Ai (a.take x.1) + Ai (b.take x.1)) (fun x=>a.length - x.1) (0,List.replicate (a.length + 1) 0,0) [0]
  ⟨Nat.zero_le _,by simp,F2 _,Bz,Nat.zero_le _,by simp [Ai]⟩ ?_ ?_
 ·exact Conv.all (by simp only [EC,simprocAttr,Ab a _,Ab b _,Ab _ _,lb,Int.cast_ofNat_Int])
 ·rintro ⟨i,o,c⟩ ⟨h1,h2,h3,h4,h5,h6⟩
  dsimp only at h1 h2 h3 h4 h5 h6 ⊢
  refine WC.rs fun K hK=>?_
  simp only [↓EJ,FY,simprocAttr,lb]
  refine hK _ ?_;clear hK K
  refine WC.cs (c:=.tmp 24) rfl fun K2 hK2=>⟨fun h=>?_,fun h=>?_⟩
  ·have hlt:i < a.length:=by simpa using h
   have hg:=Df hlt
   have hxa:a.getD i 0 < B:=Be ha i
   have hxb:b.getD i 0 < B:=Be hb i
   refine WC.skip (hK2 _ ?_)
   refine WC.bs fun K3 hK3=>?_
   refine WC.rs fun K hK=>?_
   simp only [↓EJ,FY,simprocAttr,List.length_map,hg,lb]
   repeat refine And.intro (by omega) ?_
   refine hK _ ?_;clear hK K
   refine WC.go ?_
   refine WC.sj True ⟨[(9,lb (b.getD i 0)),(8,lb (a.getD i 0)),(7,.int .i64 i),(23,.int .i64 i),(22,.int .i64 a.length),(21,.slc (a.map lb)),(6,lb c),(5,.ref (.l 0) 0 (a.length + 1)),(1,.slc (b.map lb)),(0,.slc (a.map lb))],[],[.row (o.map lb) 1 151],[]⟩ ?_ fun _=>?_
   ·refine WC.go (Aa [0,1,4,5,6,7,8,9,21,22,23,24,31] ?_)
    refine WC.cond rfl (fun h=>?_) fun h=>?_
    ·have hltb:i < b.length:=by simpa using h
     have hgb:=Df hltb
     refine WC.r1 ?_
     simp only [↓EJ,FY,simprocAttr,List.length_map,hgb,lb]
     repeat refine And.intro (by omega) ?_
     try simp only [EQ,simprocAttr]
     refine ⟨[0],?_⟩
     exact Conv.all (by simp only [EC,simprocAttr,Ab a _,Ab b _,Ab _ _,lb])
    ·have hgeb:¬ i < b.length:=by simpa using h
     have e0:b.getD i 0=0:=by simp [List.getD_eq_getElem?_getD,List.getElem?_eq_none (by omega:b.length≤i)]
     refine WC.skip ?_
     try simp only [EQ,simprocAttr]
     refine ⟨trivial,[0],?_⟩
     rw [e0]
     exact Conv.all (by simp only [EC,simprocAttr,Ab a _,Ab b _,Ab _ _,lb,Int.cast_ofNat_Int])
   have hts:=Aq a i
   have htb:=Aq b i
   generalize a.getD i 0=x at *
   generalize b.getD i 0=y at *
   have ho:(o.map lb)[i]? = some (lb (o.getD i 0)):=Cc (by omega)
   refine WC.r1 ?_
   simp only [↓EJ,FY,simprocAttr,ho]
   refine Bg (Oz x y c hxa hxb h4) ?_
   simp only [↓EJ,FY,simprocAttr,ho,Int.toNat_natCast,lb]
   repeat refine And.intro (by omega) ?_
   refine hK3 _ ?_
   refine WC.r1 ?_
   simp (disch:=omega) only [↓EJ,FY,simprocAttr,w64,Bh]
   try simp only [EQ,simprocAttr]
   have hz:(x + y + c) / B≤1:=by rw [Bv] at hxa hxb ⊢;omega
   refine ⟨(i + 1,o.set i ((x + y + c) % B),(x + y + c) / B),[0],⟨by dsimp only;omega,by dsimp only;simp [h2],Cr h3 _ (Nat.mod_lt _ Bz),by dsimp only;rw [Bv] at hz ⊢;omega,hz,?_⟩,by dsimp only;omega,?_⟩
   ·dsimp only
    rw [Lu (by omega),Ej,List.length_take,Nat.min_eq_left (by omega),hts,htb]
    simp only [Ai,Nat.mul_zero,Nat.add_zero]
    have hd:=Nat.mod_add_div (x + y + c) B
    generalize (x + y + c) / B=q at *
    generalize (x + y + c) % B=r at *
    have e:B ^ i * (r + B * q)=B ^ i * (x + y + c):=by rw [hd]
    rw [Nat.mul_add,Nat.mul_add,Nat.mul_add,← Nat.mul_assoc] at e
    rw [Nat.pow_succ]
    omega
   ·exact Conv.all (by simp only [EC,simprocAttr,Int.natCast_add,Ab a _,Ab b _,Ab _ _,lb,Cn])
  ·have hge:i=a.length:=by simp at h;omega
   subst hge
   refine WC.exit (hK1 _ ?_)
   have ho:(o.map lb)[a.length]? = some (lb (o.getD a.length 0)):=Cc (by omega)
   refine WC.rs fun K hK=>?_
   simp only [↓EJ,FY,simprocAttr,List.length_map,ho,Int.toNat_natCast,lb]
   repeat refine And.intro (by omega) ?_
   refine hK _ ?_;clear hK K
   rw [Cn]
   refine WC.frz 5 0 rfl rfl (by simp [h2]) ?_
   have e5:(((o.set a.length c).map lb).drop 0).take (a.length + 1)=(o.set a.length c).map lb:=by rw [List.drop_zero,List.take_of_length_le (by simp [h2])]
   rw [e5]
   have hsum:Ai (o.set a.length c)=s:=by
    rw [←hab,← A5 (l:=o.set a.length c) (i:=a.length + 1) (by simp [h2]),Lu (by omega),Ej,List.length_take,Nat.min_eq_left (by omega)]
    simp only [Ai,Nat.mul_zero,Nat.add_zero]
    rw [h6,A5 (Nat.le_refl _),A5 hba]
   have htr:=Fu (o.set a.length c) (Cr h3 _ h4) (by simp [h2];omega)
   rw [hsum] at htr
   refine WC.rs fun K hK=>?_
   simp only [↓EJ,FY,simprocAttr]
   refine Bg htr ?_
   simp only [↓EJ,FY,simprocAttr]
   refine hK _ (Aa [0,1,4,5,6,7,8,9,21,22,23] ?_);clear hK K
   refine WC.ret ?_
   simp only [↓EJ,FY,simprocAttr,EQ,EF,Tryz.results185]
   exact An (by simp only [Al]) rfl

theorem mul_num {x y o c:Nat} (hx:x < B) (hy:y < B) (ho:o < B) (hc:c < B) :
  ((x * y % B + o + 0) % B + c + 0) % B=(x * y + o + c) % B∧x * y / B + (x * y % B + o + 0) / B + ((x * y % B + o + 0) % B + c + 0) / B=(x * y + o + c) / B∧(x * y + o + c) / B < B:=by
 have hm:x * y≤(B - 1) * (B - 1):=Nat.mul_le_mul (Nat.le_sub_one_of_lt hx) (Nat.le_sub_one_of_lt hy)
 generalize x * y=p at *
 rw [Bv] at *
 omega
theorem Vm {n m:Nat} (h:n + m < B):IntKind.wrap .u32 ((n:Int) + (m:Int))=((n + m:Nat):Int):=by
 rw [Bv] at h
 rw [wu32 (by omega) (by omega)];omega
theorem Du {o o':List Nat} {j:Nat} (h:o'.drop j=o.drop j):o'.getD j 0=o.getD j 0:=by
 have h1:∀ l:List Nat,l.getD j 0=(l.drop j).getD 0 0:=fun l=>by simp [List.getD_eq_getElem?_getD]
 rw [h1,h1,h]
theorem Y2 (l m:List Nat) (hl:lim l) (hm:lim m) (hnl:l.length≤100000) (hnm:m.length≤100000):FSem C 186 [lbs l,lbs m] [] fun r st=>r=.ret (lbs (toL (Ai l * Ai m)))∧st=[]:=by
 have hal:(toL (Ai l)).length≤100000:=Nat.le_trans (Ie hl) hnl
 have hbl:(toL (Ai m)).length≤100000:=Nat.le_trans (Ie hm) hnm
 refine FSem.en 84 Tryz.func186 ?_
 simp only [Aj]
 refine WC.go ?_
 refine WC.rs fun K hK=>?_
 simp only [↓EJ,FY,simprocAttr]
 refine Bg (Fu l hl (by omega)) ?_
 simp only [↓EJ,FY,simprocAttr]
 refine Bg (Fu m hm (by omega)) ?_
 simp only [↓EJ,FY,simprocAttr]
 refine hK _ ?_;clear hK K
 generalize Ai l=va at *
 generalize Ai m=vb at *
 have ha:=Bo va
 have hb:=Bo vb
 have hva:=Br va
 have hvb:=Br vb
 generalize toL va=a at *
 generalize toL vb=b at *
 subst hva hvb
 have e1:((a.length:Int) + (b.length:Int)).toNat=a.length + b.length:=by omega
 refine WC.rs fun K hK=>?_
 simp (disch:=omega) only [↓EJ,FY,simprocAttr,w64,Bh,lbs,List.length_map,e1]
 repeat refine And.intro (by omega) ?_
 refine hK _ (Aa [0,1,4,5,6,7,8,9,10,11,12,13,24,25,26,27,31,32,33,34] ?_);clear hK K
 rw [Hm]
 refine Am fun K1 hK1=>?_
 refine WC.go ?_
 refine WC.b1 ?_
 refine WC.loop (X:=Nat × List Nat) (fun x=>⟨[(26,.int .i64 x.1),(25,.int .i64 a.length),(24,.slc (a.map lb)),(5,.ref (.l 0) 0 (a.length + b.length)),(1,.slc (b.map lb)),(0,.slc (a.map lb))],[],[.row (x.2.map lb) 1 151],[]⟩)
  (fun x=>x.1≤a.length∧x.2.length=a.length + b.length∧lim x.2∧Ai (x.2.take (x.1 + b.length))=Ai (a.take x.1) * Ai b∧∀ j,x.1 + b.length≤j→x.2.getD j 0=0) (fun x=>a.length - x.1) (0,List.replicate (a.length + b.length) 0) [0]
  ⟨Nat.zero_le _,by simp,F2 _,by simp [Ai,G7],fun j _=>Nv _ _⟩ ?_ ?_
 ·exact Conv.all (by simp only [EC,simprocAttr,Ab a _,Ab b _,Ab _ _])
 ·rintro ⟨i,o⟩ ⟨h1,h2,h3,h4,h5⟩
  dsimp only at h1 h2 h3 h4 h5 ⊢
  refine WC.go ?_
  refine WC.cs (c:=.tmp 27) rfl fun K2 hK2=>⟨fun h=>?_,fun h=>?_⟩
  ·have hlt:i < a.length:=by simpa using h
   have hg:=Df hlt
   have hxa:a.getD i 0 < B:=Be ha i
   have hta:=Aq a i
   refine WC.skip (hK2 _ ?_)
   refine WC.bs fun K3 hK3=>?_
   refine WC.rs fun K hK=>?_
   simp only [↓EJ,FY,simprocAttr,List.length_map,hg,lb]
   repeat refine And.intro (by omega) ?_
   refine hK _ ?_;clear hK K
   generalize a.getD i 0=x at *
   refine WC.go ?_
   refine Am fun K4 hK4=>?_
   refine WC.go ?_
   refine WC.b1 ?_
   refine WC.loop (X:=Nat × List Nat × Nat) (fun z=>⟨[(33,.int .i64 z.1),(32,.int .i64 b.length),(31,.slc (b.map lb)),(8,lb z.2.2),(7,lb x),(6,.int .i64 i),(26,.int .i64 i),(25,.int .i64 a.length),(24,.slc (a.map lb)),(5,.ref (.l 0) 0 (a.length + b.length)),(1,.slc (b.map lb)),(0,.slc (a.map lb))],[],[.row (z.2.1.map lb) 1 151],[]⟩)
    (fun z=>z.1≤b.length∧z.2.1.length=a.length + b.length∧lim z.2.1∧z.2.2 < B∧Ai (z.2.1.take (i + z.1)) + B ^ (i + z.1) * z.2.2=Ai (o.take (i + z.1)) + B ^ i * (x * Ai (b.take z.1))∧z.2.1.drop (i + z.1)=o.drop (i + z.1)) (fun z=>b.length - z.1) (0,o,0) [0]
    ⟨Nat.zero_le _,h2,h3,Bz,by simp [Ai],rfl⟩ ?_ ?_
   ·exact Conv.all (by simp only [EC,simprocAttr,Ab a _,Ab b _,Ab _ _,lb,Int.cast_ofNat_Int])
   ·rintro ⟨k,o',c⟩ ⟨g1,g2,g3,g4,g5,g6⟩
    dsimp only at g1 g2 g3 g4 g5 g6 ⊢
    refine WC.go ?_
    refine WC.cs (c:=.tmp 34) rfl fun K5 hK5=>⟨fun h=>?_,fun h=>?_⟩
    ·have hltk:k < b.length:=by simpa using h
     have hgk:=Df hltk
     have hyb:b.getD k 0 < B:=Be hb k
     have htb:=Aq b k
     refine WC.skip (hK5 _ ?_)
     refine WC.bs fun K6 hK6=>?_
     refine WC.rs fun K hK=>?_
     simp only [↓EJ,FY,simprocAttr,List.length_map,hgk,lb]
     repeat refine And.intro (by omega) ?_
     refine hK _ (Aa [0,1,4,5,6,7,8,9,10,11,12,13,24,25,26,27,31,32,33,34] ?_);clear hK K
     generalize b.getD k 0=y at *
     have hoj:=Be g3 (i + k)
     have hoje:=Du g6
     have ho:(o'.map lb)[i + k]? = some (lb (o'.getD (i + k) 0)):=Cc (by omega)
     have hto:=Aq o (i + k)
     rw [←hoje] at hto
     generalize hz:o'.getD (i + k) 0=z at *
     obtain ⟨m1,m2,m3⟩:=mul_num hxa hyb hoj g4
     simp only [Nat.add_zero] at m1 m2
     have ez:((i:Int) + (k:Int)).toNat=i + k:=by omega
     have q1:x * y / B < B:=by
      rw [Nat.div_lt_iff_lt_mul Bz];exact Nat.mul_lt_mul_of_lt_of_lt hxa hyb
     refine WC.rs fun K hK=>?_
     simp only [↓EJ,FY,simprocAttr]
     refine Bg (mul32_sem x y hxa hyb) ?_
     simp only [↓EJ,FY,simprocAttr]
     refine hK _ (Aa [0,1,4,5,6,7,8,9,10,11,12,13,24,25,26,27,31,32,33,34] ?_);clear hK K
     generalize hp:x * y=p at *
     have hpm:p % B < B:=Nat.mod_lt _ Bz
     refine WC.rs fun K hK=>?_
     simp (disch:=omega) only [↓EJ,FY,simprocAttr,w64,Bh,ho,ez]
     repeat refine And.intro (by omega) ?_
     refine Bg (Oz (p % B) z 0 hpm hoj Bz) ?_
     simp only [↓EJ,FY,simprocAttr]
     refine hK _ (Aa [0,1,4,5,6,7,8,9,10,11,12,13,24,25,26,27,31,32,33,34] ?_);clear hK K
     have q2:(p % B + z + 0) % B < B:=Nat.mod_lt _ Bz
     have w1:=Vm (Nat.lt_of_le_of_lt (Nat.le_trans (Nat.le_add_right _ _) (Nat.le_of_eq m2)) m3)
     refine WC.rs fun K hK=>?_
     simp only [↓EJ,FY,simprocAttr,w1,lb]
     refine hK _ ?_;clear hK K
     refine WC.rs fun K hK=>?_
     simp only [↓EJ,FY,simprocAttr]
     refine Bg (Oz ((p % B + z + 0) % B) c 0 q2 g4 Bz) ?_
     simp only [↓EJ,FY,simprocAttr]
     refine hK _ (Aa [0,1,4,5,6,7,8,9,10,11,12,13,24,25,26,27,31,32,33,34] ?_);clear hK K
     have w2:=Vm (Nat.lt_of_le_of_lt (Nat.le_of_eq m2) m3)
     rw [m2] at w2
     refine WC.r1 ?_
     simp (disch:=omega) only [↓EJ,FY,simprocAttr,w64,Bh,ho,ez,w2,lb]
     repeat refine And.intro (by omega) ?_
     refine hK6 _ ?_
     refine WC.r1 ?_
     simp (disch:=omega) only [↓EJ,FY,simprocAttr,w64,Bh]
     try simp only [EQ,simprocAttr]
     rw [m1]
     refine ⟨(k + 1,o'.set (i + k) ((p + z + c) % B),(p + z + c) / B),[0],⟨by dsimp only;omega,by dsimp only;simp [g2],Cr g3 _ (Nat.mod_lt _ Bz),m3,?_,?_⟩,by dsimp only;omega,?_⟩
     ·dsimp only
      rw [show i + (k + 1)=i + k + 1 by omega,Lu (by omega),Ej,List.length_take,Nat.min_eq_left (by omega),hto,htb]
      simp only [Ai,Nat.mul_zero,Nat.add_zero]
      have hd:=Nat.mod_add_div (p + z + c) B
      generalize (p + z + c) / B=q at *
      generalize (p + z + c) % B=r at *
      have e:B ^ (i + k) * (r + B * q)=B ^ (i + k) * (p + z + c):=by rw [hd]
      rw [Nat.mul_add,Nat.mul_add,Nat.mul_add,← Nat.mul_assoc] at e
      have e2:B ^ i * (x * (Ai (b.take k) + B ^ k * y))=B ^ i * (x * Ai (b.take k)) + B ^ (i + k) * p:=by
       rw [Nat.mul_add x,Nat.mul_add,Nat.pow_add,← hp]
       congr 1
       rw [Nat.mul_left_comm x,Nat.mul_assoc]
      rw [e2,Nat.pow_succ]
      omega
     ·dsimp only
      rw [show i + (k + 1)=i + k + 1 by omega,Dw (by omega),← List.drop_drop,g6,List.drop_drop]
     ·exact Conv.all (by simp only [EC,simprocAttr,Int.natCast_add,Ab a _,Ab b _,Ab _ _,lb,Cn])
    ·have hge:k=b.length:=by simp at h;omega
     subst hge
     refine WC.exit (hK4 _ ?_)
     have ez:((i:Int) + (b.length:Int)).toNat=i + b.length:=by omega
     have ho:(o'.map lb)[i + b.length]? = some (lb (o'.getD (i + b.length) 0)):=Cc (by omega)
     refine WC.r1 ?_
     simp (disch:=omega) only [↓EJ,FY,simprocAttr,w64,Bh,List.length_map,ho,ez,lb]
     repeat refine And.intro (by omega) ?_
     refine hK3 _ ?_
     refine WC.r1 ?_
     simp (disch:=omega) only [↓EJ,FY,simprocAttr,w64,Bh]
     try simp only [EQ,simprocAttr]
     refine ⟨(i + 1,o'.set (i + b.length) c),[0],⟨by dsimp only;omega,by dsimp only;simp [g2],Cr g3 _ g4,?_,fun j hj=>?_⟩,by dsimp only;omega,?_⟩
     ·dsimp only
      rw [show i + 1 + b.length=i + b.length + 1 by omega,Lu (by omega),Ej,List.length_take,Nat.min_eq_left (by omega),hta]
      simp only [Ai,Nat.mul_zero,Nat.add_zero]
      rw [g5,h4,A5 (Nat.le_refl _),Nat.add_mul,Nat.mul_assoc]
     ·dsimp only at hj ⊢
      rw [Num.getD_set_ne (by omega)]
      have e1:o'.drop (i + b.length)=o.drop (i + b.length):=g6
      have e2:o'.drop j=o.drop j:=by
       have:=congrArg (List.drop (j - (i + b.length))) e1
       rw [List.drop_drop,List.drop_drop] at this
       rwa [show i + b.length + (j - (i + b.length))=j by omega] at this
      rw [Du e2];exact h5 j (by omega)
     ·exact Conv.all (by simp only [EC,simprocAttr,Int.natCast_add,Ab a _,Ab b _,Ab _ _,lb,Cn])
  ·have hge:i=a.length:=by simp at h;omega
   subst hge
   refine WC.exit (hK1 _ ?_)
   refine WC.frz 5 0 rfl rfl (by simp [h2]) ?_
   have e5:((o.map lb).drop 0).take (a.length + b.length)=o.map lb:=by rw [List.drop_zero,List.take_of_length_le (by simp [h2])]
   rw [e5]
   have hv:Ai o=Ai a * Ai b:=by
    rw [A5 (by omega),A5 (Nat.le_refl _)] at h4;exact h4
   have htr:=Fu o h3 (by omega)
   rw [hv] at htr
   refine WC.rs fun K hK=>?_
   simp only [↓EJ,FY,simprocAttr]
   refine Bg htr ?_
   simp only [↓EJ,FY,simprocAttr]
   refine hK _ ?_;clear hK K
   refine WC.ret ?_
   simp only [↓EJ,FY,simprocAttr,EQ,EF,Tryz.results186]
   exact An (by simp only [Al]) rfl
end Go.LexSem
set_option maxHeartbeats 4000000
set_option maxRecDepth 8000
namespace Go.LexSem
open Go Go.V Go.Proofs Go.Num

/-- The number of a text of digits. -/
def decF (v:Nat) (s:List UInt8):Nat:=s.foldl (fun v c=>v * 10 + (c.toNat - 48)) v
def dec (s:List UInt8):Nat:=decF 0 s
theorem M3 (s:List UInt8) (c:UInt8):dec (s ++ [c])=dec s * 10 + (c.toNat - 48):=by simp [dec,decF]
theorem Oy (s:List UInt8) (h:∀ c∈s,A9 (c.toNat:Int)=true):dec s < 10 ^ s.length:=by
 have key:∀ (s:List UInt8) v,(∀ c∈s,A9 (c.toNat:Int)=true)→decF v s < (v + 1) * 10 ^ s.length:=by
  intro s
  induction s with
  | nil=>intro v _;simp [decF]
  | cons c s ih =>
    intro v h
    have h1:=ih (v * 10 + (c.toNat - 48)) fun x hx=>h x (List.mem_cons_of_mem _ hx)
    have hc:=h c (by simp)
    simp only [A9,Bool.and_eq_true,decide_eq_true_eq] at hc
    have:(v * 10 + (c.toNat - 48) + 1) * 10 ^ s.length≤((v + 1) * 10) * 10 ^ s.length:=Nat.mul_le_mul_right _ (by omega)
    simp only [decF,List.foldl_cons] at h1 ⊢
    rw [List.length_cons,Nat.pow_succ,Nat.mul_comm (10 ^ s.length),← Nat.mul_assoc]
    omega
 have:=key s 0 h
 rwa [Nat.zero_add,Nat.one_mul] at this

theorem Ux (s:List UInt8) (h0:s≠[]) (h60:s.length≤60) (hd:∀ c∈s,A9 (c.toNat:Int)=true):FSem C 169 [.str s] [] fun r st=>r=.ret (.tuple [lbs (toL (dec s)),.int .i64 0])∧st=[]:=by
 have hat:∀ i (h:i < s.length),A9 (gb s i)=true:=fun i h=>by
  have:=hd s[i] (List.getElem_mem h)
  simp only [gb,List.getD_eq_getElem?_getD,List.getElem?_eq_getElem h,Option.getD_some];exact this
 refine FSem.en 45 Tryz.func169 ?_
 simp only [Aj]
 refine WC.go ?_
 refine WC.scope ?_
 refine Am fun K1 hK1=>?_
 refine WC.go ?_
 refine WC.cond rfl (fun h=>?_) fun h=>?_
 ·simp at h;exact absurd h h0
 refine WC.skip (hK1 _ ?_)
 refine WC.ls ?_
 refine Am fun K2 hK2=>?_
 refine WC.go ?_
 refine WC.b1 ?_
 refine WC.loop (X:=Nat) (fun i=>⟨[(11,.int .i64 i),(10,.int .i64 s.length),(0,.str s)],[],[],[]⟩) (fun i=>i≤s.length) (fun i=>s.length - i) 0 [] (Nat.zero_le _) ?_ ?_
 ·exact Conv.all (by simp only [EC,simprocAttr])
 ·rintro i hi
  refine WC.go ?_
  refine WC.cs (c:=.tmp 12) rfl fun K3 hK3=>⟨fun h=>?_,fun h=>?_⟩
  ·have hlt:i < s.length:=by simpa using h
   have hdi:=hat i hlt
   simp only [A9,Bool.and_eq_true,decide_eq_true_eq] at hdi
   have d1:(48≤gb s i)=True:=eq_true hdi.1
   have d2:(gb s i≤57)=True:=eq_true hdi.2
   refine WC.skip (hK3 _ ?_)
   refine WC.bs fun K4 hK4=>?_
   refine WC.go ?_
   refine Am fun K5 hK5=>?_
   refine WC.rs fun K hK=>?_
   simp only [↓EJ,FY,simprocAttr,d1,d2,Int.toNat_natCast]
   repeat refine And.intro (by omega) ?_
   refine hK _ (Aa [0,2,3,4,5,6,10,11,12,23,27,29,30,31] ?_);clear hK K
   refine WC.cond rfl (fun h=>?_) fun h=>?_
   ·refine WC.exit ?_
    simp only [EQ,reduceIte,Nat.reduceEqDiff]
    refine hK4 _ ?_
    refine WC.r1 ?_
    simp (disch:=omega) only [↓EJ,FY,simprocAttr,w64,Bh]
    try simp only [EQ,simprocAttr]
    refine ⟨i + 1,[],by omega,by omega,?_⟩
    exact Conv.all (by simp only [EC,simprocAttr,Int.natCast_add])
   ·simp at h
  ·refine WC.exit (hK2 _ ?_)
   refine Am fun K6 hK6=>?_
   refine WC.go ?_
   refine WC.cond rfl (fun h=>?_) fun h=>?_
   ·simp at h;omega
   refine WC.skip (hK6 _ ?_)
   refine WC.go ?_
   refine Vg 5 rfl ?_
   refine Am fun K7 hK7=>?_
   refine WC.go ?_
   refine WC.b1 ?_
   refine WC.loop (X:=Nat) (fun i=>⟨[(30,.int .i64 i),(29,.int .i64 s.length),(5,lbs (toL (dec (s.take i)))),(0,.str s)],[],[],[]⟩) (fun i=>i≤s.length) (fun i=>s.length - i) 0 [] (Nat.zero_le _) ?_ ?_
   ·exact Conv.all (by simp only [EC,simprocAttr,List.take_zero,dec,decF,List.foldl_nil,Cq,lbs])
   ·rintro i hi
    refine WC.go ?_
    refine WC.cs (c:=.tmp 31) rfl fun K8 hK8=>⟨fun h=>?_,fun h=>?_⟩
    ·have hlt:i < s.length:=by simpa using h
     have hdi:=hat i hlt
     simp only [A9,Bool.and_eq_true,decide_eq_true_eq] at hdi
     have hgb:gb s i=((s[i].toNat:Nat):Int):=by simp [gb,List.getD_eq_getElem?_getD,hlt]
     have hts:=M3 (s.take i) s[i]
     rw [←List.take_succ_eq_append_getElem hlt] at hts
     generalize s[i].toNat=c at *
     have hlim:=Bo (dec (s.take i))
     have hvt:=Br (dec (s.take i))
     have hlen:(toL (dec (s.take i))).length≤100:=by
      refine Gl (Nat.lt_of_lt_of_le (Oy _ fun c hc=>hd c (List.mem_of_mem_take hc)) ?_)
      refine Nat.le_trans (Nat.pow_le_pow_right (by decide) (show (s.take i).length≤60 by simp;omega)) (by decide)
     rw [hgb] at hdi
     have hw:IntKind.wrap .u32 (IntKind.wrap .u8 ((c:Int) - 48))=((c - 48:Nat):Int):=by
      rw [IntKind.wrap_u8,Iv];omega
     have hc10:lim [c - 48]:=fun x hx=>by simp at hx;subst hx;rw [Bv];omega
     have h10:lim [10]:=fun x hx=>by simp at hx;subst hx;rw [Bv];omega
     have hmul:=Y2 (toL (dec (s.take i))) [10] hlim h10 (by omega) (by simp)
     have hlen2:(toL (dec (s.take i) * 10)).length≤100:=by
      have h1:dec (s.take i) * 10 < 10 ^ 61:=by
       have:=Oy (s.take i) fun c hc=>hd c (List.mem_of_mem_take hc)
       have h2:10 ^ (s.take i).length≤10 ^ 60:=Nat.pow_le_pow_right (by decide) (by simp;omega)
       have h3:10 ^ 61=10 ^ 60 * 10:=by decide
       omega
      exact Gl (Nat.lt_trans h1 (by decide))
     have hadd:=Y5 (toL (dec (s.take i) * 10)) [c - 48] (Bo _) hc10 (by omega) (by simp)
     rw [hvt] at hmul
     rw [Br] at hadd
     simp only [Ai,Nat.mul_zero,Nat.add_zero] at hmul hadd
     refine WC.skip (hK8 _ ?_)
     refine WC.bs fun K9 hK9=>?_
     refine WC.go ?_
     refine Dn [⟨0,0,false,[]⟩,⟨1,2,false,[]⟩,⟨2,3,false,[]⟩,⟨3,0,false,[]⟩,⟨4,0,false,[]⟩,⟨5,0,false,[]⟩,⟨6,0,false,[]⟩,⟨7,0,false,[]⟩,⟨8,2,false,[]⟩,⟨9,3,false,[]⟩,⟨10,0,false,[]⟩] [0,0,3,0,0,24,56,120,248,511,1023] ?_
     simp only [↓EJ,FY,simprocAttr,hgb,hw,lbs,Int.toNat_natCast]
     refine ⟨lbs (toL (dec (s.take i) * 10)),CallX.mk (CallW.pure hmul (by simp only [CL,Ab,and_self]) (by simp only [Al]) ⟨rfl,rfl⟩),?_⟩
     simp only [↓EJ,FY,simprocAttr,hgb,hw,lbs,Int.toNat_natCast]
     repeat refine And.intro (by omega) ?_
     refine ⟨lbs (toL (dec (s.take i) * 10 + (c - 48))),CallX.mk (CallW.pure hadd (by simp only [CL,Ab,and_self]) (by simp only [Al]) ⟨rfl,rfl⟩),?_⟩
     rw [←hts]
     refine hK9 _ ?_
     refine WC.r1 ?_
     simp (disch:=omega) only [↓EJ,FY,simprocAttr,w64,Bh]
     try simp only [EQ,simprocAttr]
     refine ⟨i + 1,[],by omega,by omega,?_⟩
     exact Conv.all (by simp only [EC,simprocAttr,Int.natCast_add,lbs,Ab _ _])
    ·have hge:i=s.length:=by simp at h;omega
     subst hge
     refine WC.exit (hK7 _ ?_)
     refine WC.go (Aa [0,2,3,5,10,11,29,30] ?_)
     refine WC.ret ?_
     simp only [↓EJ,FY,simprocAttr,EQ,EF,Tryz.results169]
     rw [List.take_length]
     exact An (by simp only [CL,Al,and_self]) rfl
end Go.LexSem
set_option maxHeartbeats 4000000
set_option maxRecDepth 8000
namespace Go.LexSem
open Go Go.V Go.Proofs Go.Num

theorem Zv (m n:Nat):(m:Int).tdiv (n:Int)=((m / n:Nat):Int):=rfl
theorem V7 (m n:Nat):(m:Int).tmod (n:Int)=((m % n:Nat):Int):=rfl
/-- Two limbs, one behind the other. -/
theorem Mz {h l:Nat} (hh:h < B) (hl:l < B):Go.bits .or .u64 ((h:Int) * 4294967296) (l:Int)=((h * B + l:Nat):Int):=by
 rw [Bv] at *
 rw [show (h:Int) * 4294967296=((h * 4294967296:Nat):Int) by omega,u64_or_nat _ _ (by omega) (by omega),nat_join 32 _ _ (by omega) (by omega)]
theorem At {n:Nat} (h:n < 18446744073709551616):IntKind.wrap .u64 (n:Int)=(n:Int):=Bh (by omega) (by omega)
theorem Ff {n:Nat} (h:n < B):IntKind.wrap .u32 (n:Int)=(n:Int):=by rw [Bv] at h;exact wu32 (by omega) (by omega)
theorem U9 {h l y:Nat} (hh:h < y) (hl:l < B) (hy:y < B):(h * B + l) / y < B∧(h * B + l) % y < y∧h * B + l < B * B:=by
 have h1:h * B + l < y * B:=by
  have:(h + 1) * B≤y * B:=Nat.mul_le_mul_right _ hh
  rw [Nat.add_mul,Nat.one_mul] at this;omega
 refine ⟨by rw [Nat.div_lt_iff_lt_mul (by omega),Nat.mul_comm B];exact h1,Nat.mod_lt _ (by omega),Nat.lt_of_lt_of_le h1 (Nat.mul_le_mul_right _ (Nat.le_of_lt hy))⟩

theorem div32_sem (h l y:Nat) (hh:h < y) (hl:l < B) (hy:y < B) :
  FSem C 216 [lb h,lb l,lb y] [] fun r st=>r=.ret (.tuple [lb ((h * B + l) / y),lb ((h * B + l) % y)])∧st=[]:=by
 obtain ⟨d1,d2,d3⟩:=U9 hh hl hy
 have hj:=Mz (Nat.lt_trans hh hy) hl
 generalize hx:h * B + l=x at *
 have hhB:h < 4294967296:=Nat.lt_trans hh hy
 have y0:((y:Int)=0)=False:=eq_false (by omega)
 have y1:((y:Int)≤(h:Int))=False:=eq_false (by omega)
 have w1:IntKind.wrap .u64 ((x / y:Nat):Int)=((x / y:Nat):Int):=At (Nat.lt_trans d1 (by decide))
 have w2:=Ff d1
 have w3:=Ff (Nat.lt_trans d2 hy)
 rw [Bv] at hy hl d1 d3
 refine FSem.en 33 Tryz.func216 ?_
 simp only [Aj]
 refine WC.go ?_
 refine Am fun K1 hK1=>?_
 refine WC.rs fun K hK=>?_
 simp only [↓EJ,FY,simprocAttr,lb,y0,y1,Bool.not_false]
 refine hK _ (Aa [0,1,2,6,7,8,15] ?_);clear hK K
 refine WC.cond rfl (fun h=>?_) fun h=>?_
 ·cases h
 refine WC.skip (hK1 _ ?_)
 refine WC.rs fun K hK=>?_
 simp (disch:=omega) only [↓EJ,FY,simprocAttr,w64,Bh,Gc,hj]
 refine hK _ (Aa [2,6,7,8] ?_);clear hK K
 refine WC.dg [⟨0,0,false,[]⟩,⟨1,0,false,[]⟩,⟨2,0,false,[]⟩,⟨3,0,false,[]⟩,⟨4,0,false,[]⟩,⟨5,0,false,[]⟩,⟨6,0,false,[]⟩,⟨7,0,false,[]⟩,⟨8,0,false,[]⟩,⟨9,0,false,[]⟩,⟨10,0,false,[]⟩,⟨11,0,false,[]⟩] [0,0,2,7,15,0,0,64,224,480,31,2047] fun K hK=>?_
 simp (disch:=omega) only [↓EJ,FY,simprocAttr,w64,Bh,Zv,V7,w1,w2,w3]
 repeat refine And.intro (by omega) ?_
 refine hK _ (Aa [6,7] ?_);clear hK K
 refine WC.ret ?_
 simp only [↓EJ,FY,simprocAttr,EQ,EF,Tryz.results216]
 exact An (by simp only [CL,As,and_self]) rfl

theorem short_sem (l:List Nat) (d:Nat) (hl:lim l) (hn:l.length≤100000) (hd:0 < d) (hdB:d < B) :
  FSem C 210 [lbs l,lb d] [] fun r st=>r=.ret (.tuple [lbs (toL (Ai l / d)),lb (Ai l % d)])∧st=[]:=by
 refine FSem.en 35 Tryz.func210 ?_
 simp only [Aj]
 refine WC.go ?_
 refine WC.rs fun K hK=>?_
 simp (disch:=omega) only [↓EJ,FY,simprocAttr,w64,Bh,lbs,List.length_map,Int.toNat_natCast]
 repeat refine And.intro (by omega) ?_
 refine hK _ ?_;clear hK K
 rw [Hm]
 refine WC.go ?_
 refine Am fun K1 hK1=>?_
 refine WC.rs fun K hK=>?_
 simp (disch:=omega) only [↓EJ,FY,simprocAttr,w64,Bh,List.length_map]
 refine hK _ (Aa [0,1,4,5,6,7,8,16] ?_);clear hK K
 refine WC.b1 ?_
 refine WC.loop (X:=Nat × List Nat × Nat) (fun x=>⟨[(8,.int .i64 ((x.1:Int) - 1)),(7,lb x.2.2),(6,.ref (.l 0) 0 l.length),(5,lb 0),(4,.nils),(1,lb d),(0,.slc (l.map lb))],[],[.row (x.2.1.map lb) 1 151],[]⟩)
  (fun x=>x.1≤l.length∧x.2.1.length=l.length∧lim x.2.1∧x.2.2 < d∧Ai (l.drop x.1)=d * Ai (x.2.1.drop x.1) + x.2.2) (fun x=>x.1) (l.length,List.replicate l.length 0,0) [0]
  ⟨Nat.le_refl _,by simp,F2 _,hd,by simp [Ai]⟩ ?_ ?_
 ·exact Conv.all (by simp only [EC,simprocAttr,Ab l _,Ab _ _,lb,Int.cast_ofNat_Int])
 ·rintro ⟨i,o,r⟩ ⟨h1,h2,h3,h4,h5⟩
  dsimp only at h1 h2 h3 h4 h5 ⊢
  refine Am fun K2 hK2=>?_
  refine WC.go ?_
  refine WC.cond rfl (fun h=>?_) fun h=>?_
  ·have hi:0 < i:=by simp at h;omega
   have e1:((i:Int) - 1).toNat=i - 1:=by omega
   have hg:gi (l.map lb) (i - 1)=lb (l.getD (i - 1) 0):=Df (by omega)
   have hx:l.getD (i - 1) 0 < B:=Be hl _
   have hld:=Hc (l:=l) (i:=i - 1) (by omega)
   rw [show i - 1 + 1=i by omega,h5] at hld
   generalize l.getD (i - 1) 0=x at *
   have ho:(o.map lb)[i - 1]? = some (lb (o.getD (i - 1) 0)):=Cc (by omega)
   obtain ⟨d1,d2,d3⟩:=U9 h4 hx hdB
   refine WC.skip (hK2 _ ?_)
   refine WC.bs fun K3 hK3=>?_
   refine WC.r1 ?_
   simp only [↓EJ,FY,simprocAttr,List.length_map,hg,e1,Jr]
   repeat refine And.intro (by omega) ?_
   refine Bg (div32_sem r x d h4 hx hdB) ?_
   simp only [↓EJ,FY,simprocAttr,ho,e1,lb]
   repeat refine And.intro (by omega) ?_
   refine hK3 _ ?_
   refine WC.r1 ?_
   simp (disch:=omega) only [↓EJ,FY,simprocAttr,w64,Bh]
   try simp only [EQ,simprocAttr]
   have e2:((i - 1:Nat):Int)=(i:Int) - 1:=by omega
   refine ⟨(i - 1,o.set (i - 1) ((r * B + x) / d),(r * B + x) % d),[0],⟨by dsimp only;omega,by dsimp only;simp [h2],Cr h3 _ d1,d2,?_⟩,by dsimp only;omega,?_⟩
   ·dsimp only
    rw [hld,Hc (l:=o.set (i - 1) _) (by simp;omega),Num.getD_set_eq (by omega),Dw (by omega),show i - 1 + 1=i by omega]
    have hm:=Nat.div_add_mod (r * B + x) d
    generalize (r * B + x) / d=q at *
    generalize (r * B + x) % d=m at *
    generalize Ai (o.drop i)=w at *
    rw [Nat.mul_add,Nat.mul_add,Nat.mul_left_comm B d w,Nat.mul_comm B r]
    omega
   ·exact Conv.all (by simp only [EC,simprocAttr,e2,Ab l _,Ab _ _,lb,Cn])
  ·have hi:i=0:=by simp at h;omega
   subst hi
   rw [List.drop_zero,List.drop_zero] at h5
   refine WC.exit (hK1 _ ?_)
   refine WC.frz 6 0 rfl rfl (by simp [h2]) ?_
   have e5:((o.map lb).drop 0).take l.length=o.map lb:=by rw [List.drop_zero,List.take_of_length_le (by simp [h2])]
   rw [e5]
   have hq:Ai o=Ai l / d:=by rw [h5,Nat.mul_add_div hd,Nat.div_eq_of_lt h4,Nat.add_zero]
   have hr:r=Ai l % d:=by rw [h5,Nat.mul_add_mod,Nat.mod_eq_of_lt h4]
   have htr:=Fu o h3 (by omega)
   rw [hq] at htr
   refine WC.rs fun K hK=>?_
   simp only [↓EJ,FY,simprocAttr]
   refine Bg htr ?_
   simp only [↓EJ,FY,simprocAttr]
   refine hK _ ?_;clear hK K
   refine WC.ret ?_
   simp only [↓EJ,FY,simprocAttr,EQ,EF,Tryz.results210]
   exact An (by simp only [CL,As,Al,and_self]) (by rw [hr])
end Go.LexSem
set_option maxHeartbeats 4000000
set_option maxRecDepth 8000
namespace Go.LexSem
open Go Go.V Go.Proofs Go.Num

theorem shlN {x k:Nat} (hk:k≤31):(x:Int) * 2 ^ min k IntKind.u64.bits=((x * 2 ^ k:Nat):Int):=by
 rw [show min k IntKind.u64.bits=k by simp [IntKind.bits];omega];simp
theorem Gg {k:Nat} (hk:k≤31):2 ^ k≤2147483648:=Nat.le_trans (Nat.pow_le_pow_right (by decide) hk) (by decide)
theorem orN {x y k:Nat} (hk:k≤31) (hx:x < 2 ^ k) (hy:y < B) (hm:y % 2 ^ k=0):Go.bits .or .u32 (x:Int) (y:Int)=((x + y:Nat):Int):=by
 have:=Gg hk
 rw [Bv] at hy
 rw [u32_or_nat _ _ (by omega) hy,Nat.or_comm,nat_join k _ _ hm hx,Nat.add_comm]
theorem shl_lt {d k:Nat} (hk:k≤31) (hd:d < B):d * 2 ^ k / B < 2 ^ k∧d * 2 ^ k < 18446744073709551616∧(d * 2 ^ k % B) % 2 ^ k=0∧∀ x,x < 2 ^ k→x + d * 2 ^ k % B < B:=by
 have hp:0 < 2 ^ k:=Nat.pow_pos (by decide)
 have h31:=Gg hk
 obtain ⟨c,hc⟩:∃ c,B=2 ^ k * c:=⟨2 ^ (32 - k),by rw [←Nat.pow_add,show k + (32 - k)=32 by omega];rfl⟩
 have h1:d * 2 ^ k < B * 2 ^ k:=Nat.mul_lt_mul_of_pos_right hd hp
 have hm:d * 2 ^ k % B=2 ^ k * (d % c):=by rw [hc,Nat.mul_comm d,Nat.mul_mod_mul_left]
 refine ⟨by rw [Nat.div_lt_iff_lt_mul Bz,Nat.mul_comm (2 ^ k) B];exact h1,?_,by rw [hm,Nat.mul_mod_right],fun x hx=>?_⟩
 ·have:B * 2 ^ k≤B * 2147483648:=Nat.mul_le_mul_left _ h31
  rw [Bv] at *;omega
 ·rw [hm]
  have hc0:0 < c:=by
   rcases Nat.eq_zero_or_pos c with h | h
   ·rw [h,Nat.mul_zero] at hc;exact absurd hc (by decide)
   ·exact h
  have:=Nat.mul_le_mul_left (2 ^ k) (Nat.mod_lt d hc0)
  rw [Nat.mul_succ,← hc] at this
  omega

theorem shift_sem (l:List Nat) (k:Nat) (hl:lim l) (hn:l.length≤100000) (hk:k≤31) :
  FSem C 218 [lbs l,.int .u64 k] [] fun r st=>∃ o:List Nat,(lim o∧o.length=l.length + 1∧Ai o=Ai l * 2 ^ k∧o.getD l.length 0 < 2 ^ k)∧r=.ret (.ref (.o 0) 0 (l.length + 1))∧st=[.row (o.map lb) 1 151]:=by
 have e1:((l.length:Int) + 1).toNat=l.length + 1:=by omega
 have hp:0 < 2 ^ k:=Nat.pow_pos (by decide)
 refine FSem.en 41 Tryz.func218 ?_
 simp only [Aj]
 refine WC.go ?_
 refine WC.rs fun K hK=>?_
 simp (disch:=omega) only [↓EJ,FY,simprocAttr,w64,Bh,lbs,List.length_map,e1]
 repeat refine And.intro (by omega) ?_
 refine hK _ ?_;clear hK K
 rw [Hm]
 refine Am fun K1 hK1=>?_
 refine WC.go ?_
 refine WC.b1 ?_
 refine WC.loop (X:=Nat × List Nat) (fun x=>⟨[(15,.int .i64 x.1),(14,.int .i64 l.length),(13,.slc (l.map lb)),(5,.ref (.l 0) 0 (l.length + 1)),(1,.int .u64 k)],[],[.row (x.2.map lb) 1 151],[]⟩)
  (fun x=>x.1≤l.length∧x.2.length=l.length + 1∧lim x.2∧Ai (x.2.take (x.1 + 1))=Ai (l.take x.1) * 2 ^ k∧x.2.getD x.1 0 < 2 ^ k∧∀ j,x.1 < j→x.2.getD j 0=0) (fun x=>l.length - x.1) (0,List.replicate (l.length + 1) 0) [0]
  ⟨Nat.zero_le _,by simp,F2 _,by simp [Ai,G7],by rw [Nv];exact hp,fun j _=>Nv _ _⟩ ?_ ?_
 ·exact Conv.all (by simp only [EC,simprocAttr,Ab l _,Ab _ _])
 ·rintro ⟨i,o⟩ ⟨h1,h2,h3,h4,h5,h6⟩
  dsimp only at h1 h2 h3 h4 h5 h6 ⊢
  refine WC.go ?_
  refine WC.cs (c:=.tmp 16) rfl fun K2 hK2=>⟨fun h=>?_,fun h=>?_⟩
  ·have hlt:i < l.length:=by simpa using h
   have hg:=Df hlt
   have hd:=Be hl i
   have hgd:l.getD i 0=l.getD i 0:=rfl
   refine WC.skip (hK2 _ ?_)
   refine WC.bs fun K3 hK3=>?_
   refine WC.rs fun K hK=>?_
   simp only [↓EJ,FY,simprocAttr,List.length_map,hg,lb]
   repeat refine And.intro (by omega) ?_
   refine hK _ (Aa [0,1,4,5,6,7,8,13,14,15,16] ?_);clear hK K
   generalize hdd:l.getD i 0=d at *
   obtain ⟨s1,s2,s3,s4⟩:=shl_lt hk hd
   have w1:IntKind.wrap .u64 ((d * 2 ^ k:Nat):Int)=((d * 2 ^ k:Nat):Int):=At s2
   have w0:=At (Nat.lt_trans hd (by decide))
   refine WC.rs fun K hK=>?_
   simp only [↓EJ,FY,simprocAttr,w0,Int.toNat_natCast,shlN hk,w1]
   repeat refine And.intro (by omega) ?_
   refine hK _ ?_;clear hK K
   have ho:(o.map lb)[i]? = some (lb (o.getD i 0)):=Cc (by omega)
   generalize hoi:o.getD i 0=oi at *
   generalize hv:d * 2 ^ k=v at *
   have e2:(v:Int) % 4294967296=((v % B:Nat):Int):=by rw [Bv];omega
   have hor:=orN hk h5 (Nat.mod_lt v Bz) s3
   refine WC.rs fun K hK=>?_
   simp only [↓EJ,FY,simprocAttr,ho,lb,Int.toNat_natCast,Iv,e2,hor]
   repeat refine And.intro (by omega) ?_
   refine hK _ (Aa [0,1,4,5,6,7,8,13,14,15,16] ?_);clear hK K
   rw [Cn]
   have hsb:=s4 oi h5
   have ho2:((o.set i (oi + v % B)).map lb)[i + 1]? = some (lb ((o.set i (oi + v % B)).getD (i + 1) 0)):=Cc (by simp;omega)
   have e3:((i:Int) + 1).toNat=i + 1:=by omega
   have w2:IntKind.wrap .u32 ((v:Int) / 4294967296)=((v / B:Nat):Int):=by
    rw [show (v:Int) / 4294967296=((v / B:Nat):Int) by rw [Bv];omega]
    exact Ff (Nat.lt_of_lt_of_le s1 (Nat.le_trans (Gg hk) (by decide)))
   refine WC.r1 ?_
   simp (disch:=omega) only [↓EJ,FY,simprocAttr,w64,Bh,ho2,e3,Dd,w2,lb]
   repeat refine And.intro (by omega) ?_
   refine hK3 _ ?_
   refine WC.r1 ?_
   simp (disch:=omega) only [↓EJ,FY,simprocAttr,w64,Bh]
   try simp only [EQ,simprocAttr]
   refine ⟨(i + 1,(o.set i (oi + v % B)).set (i + 1) (v / B)),[0],⟨by dsimp only;omega,by dsimp only;simp [h2],Cr (Cr h3 _ hsb) _ (Nat.lt_of_lt_of_le s1 (Nat.le_trans (Gg hk) (by decide))),?_,?_,fun j hj=>?_⟩,by dsimp only;omega,?_⟩
   ·dsimp only
    refine shl_step (o:=o) (oi:=oi) (v:=v) h4 hoi.symm (by rw [hdd,hv]) ?_ (by omega)
    rw [Lu (by simp;omega),Lu (by omega),List.append_assoc];rfl
   ·dsimp only
    rw [Num.getD_set_eq (by simp;omega)];exact s1
   ·dsimp only at hj ⊢
    rw [Num.getD_set_ne (by omega),Num.getD_set_ne (by omega)]
    exact h6 j (by omega)
   ·exact Conv.all (by simp only [EC,simprocAttr,Int.natCast_add,Ab l _,Ab _ _,lb,Cn])
  ·have hge:i=l.length:=by simp at h;omega
   subst hge
   refine WC.exit (hK1 _ ?_)
   refine WC.go ?_
   refine WC.ret ?_
   simp only [↓EJ,FY,simprocAttr,EQ,EF,Tryz.results218]
   refine ⟨[0],.ref (.o 0) 0 (l.length + 1),[.row (o.map lb) 1 151],by simp,by simp,by simp,rfl,fun j x hx=>?_,o,⟨h3,h2,?_,h5⟩,rfl,rfl⟩
   ·cases j with
    | zero=>simp at hx;subst hx;simp [Ny,Ao,Cu,Ab o _]
    | succ j=>simp at hx
   ·rw [A5 (by omega),A5 (Nat.le_refl _)] at h4;exact h4
end Go.LexSem
set_option maxHeartbeats 4000000
set_option maxRecDepth 8000
namespace Go.LexSem
open Go Go.V Go.Proofs Go.Num

/-- How far a limb is from being at least half of B. -/
def lz (x:Nat):Nat:=32 - Lib.bitLen x
theorem Aac {x:Nat} (h0:x≠0) (h:x < B):lz x≤31∧B / 2≤x * 2 ^ lz x∧x * 2 ^ lz x < B∧Lib.bitLen x≤32:=by
 obtain ⟨a,b,c⟩:=Lib.bitLenAux_bounds 64 x (Nat.lt_trans h (by decide)) h0
 have h32:Lib.bitLen x≤32:=Lib.bitLen_le x 32 (by omega) h
 unfold lz
 have e:Lib.bitLenAux 64 x=Lib.bitLen x:=rfl
 rw [e] at a b c
 generalize Lib.bitLen x=L at *
 have e1:B / 2=2 ^ (L - 1) * 2 ^ (32 - L):=by rw [←Nat.pow_add,show L - 1 + (32 - L)=31 by omega];rfl
 have e2:B=2 ^ L * 2 ^ (32 - L):=by rw [←Nat.pow_add,show L + (32 - L)=32 by omega];rfl
 refine ⟨by omega,?_,?_,h32⟩
 ·rw [e1];exact Nat.mul_le_mul_right _ b
 ·conv=>rhs;rw [e2]
  exact Nat.mul_lt_mul_of_pos_right c (Nat.pow_pos (by decide))
theorem lz_sem (x:Nat) (h0:x≠0) (h:x < B):FSem C 217 [lb x] [] fun r st=>r=.ret (.int .i64 (lz x))∧st=[] :=
 Zm (by kernel_rfl) fun V vs ha=>by
  obtain ⟨h1,h2⟩:=ha
  have hv:=h2 0 (lb x) rfl
  have hs:vs=#[.int .u32 x]:=by
   have hsz:vs.size=1:=h1
   have h3:vs.getD 0 undef=.int .u32 x:=by
    generalize vs.getD 0 undef=z at hv
    cases hv;rfl
   apply Array.ext
   ·simp [hsz]
   ·intro i hi hi2
    have:i=0:=by simp at hi2;omega
    subst this
    simpa [Array.getD_eq_getD_getElem?,hi] using h3
  have hb:Lib.bitLen x≤32:=(Aac h0 h).2.2.2
  rw [hs]
  refine ⟨.int .i64 (lz x),.int,?_⟩
  have key:=Go.Proofs.Any.bits_LeadingZeros32 lays133 (x:Int) V.w (by omega) (by rw [Bv] at h;omega)
  refine key.mono fun e w' ⟨he,hw⟩=>⟨?_,hw⟩
  rw [he,Int.toNat_natCast,lz]
  congr 2
  omega
/-- One limb of the subtraction, as the program does it. -/
theorem W7 (ui p bo:Nat) (h1:ui < B) (h2:p < B) (h3:bo≤1):∃ x' bo':Nat,x' < B∧bo'≤1∧x' + p + bo=ui + B * bo' ∧
  IntKind.wrap .u32 (IntKind.wrap .u64 (IntKind.wrap .u64 ((ui:Int) - (p:Int)) - (bo:Int)))=(x':Int)∧IntKind.wrap .u64 (IntKind.wrap .u64 ((ui:Int) - (p:Int)) - (bo:Int)) / 9223372036854775808=(bo':Int):=by
 rw [Bv] at *
 by_cases h:p + bo≤ui
 ·refine ⟨ui - p - bo,0,by omega,by omega,by omega,?_,?_⟩ <;> simp only [IntKind.wrap_u32',IntKind.wrap_u64] <;> omega
 ·refine ⟨ui + 4294967296 - p - bo,1,by omega,by omega,by omega,?_,?_⟩ <;> simp only [IntKind.wrap_u32',IntKind.wrap_u64] <;> omega
/-- The lower limb of a whole number of 64 bits. -/
theorem and32 {c:Nat} (h:c < 18446744073709551616):Go.bits .and .u64 (c:Int) 4294967295=((c % B:Nat):Int):=by
 have:=u64_and_nat c 4294967295 h (by decide)
 rw [show ((4294967295:Nat):Int)=4294967295 from rfl] at this
 rw [this,show (4294967295:Nat)=2 ^ 32 - 1 from rfl,Nat.and_two_pow_sub_one_eq_mod]
 rfl
end Go.LexSem
