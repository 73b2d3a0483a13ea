/-
 Texts joined: RnA RnB RnC RnD.
-/
import Derived.Test.YtenieameoojbjaaGreatDoorUMH
import Derived.Test.YtenieameoojbjaaGreatDoorUMD
set_option linter.unusedVariables false
set_option linter.unusedSimpArgs false
set_option linter.loopingSimpArgs false
-- TIGHT
set_option maxHeartbeats 8000000
set_option maxRecDepth 8000
namespace Go.LexSem
open Go Go.V Go.Proofs Go.Num

/-! ### The reference's whole numbers -/
theorem Uw:A8 0=.nils:=rfl
theorem Il {n:Nat} (h:n≠0):A8 n=lbs (toL n):=if_neg h
theorem Zp (n:Nat):A8 n=nv n∨(A8 n=.nils∧nv n=.slc []):=by
 by_cases h:n=0
 ·subst h;exact .inr ⟨rfl,nv0⟩
 ·exact .inl (if_neg h)
theorem Z6 (n:Nat) {V:View} {v:Value} (h:Rep V (A8 n) v):Rep V (nv n) v:=by
 rcases Zp n with e | ⟨e1,e2⟩
 ·rw [←e];exact h
 ·rw [e1] at h;rw [e2];exact Rd V v h
theorem lbs_toL {l:List Nat} (hl:lim l) (hn:nrm l):lbs l=nv (Ai l):=by rw [nv,P5 hl hn]
theorem G3 (l:List Nat) (hl:lim l) (hn:l.length≤1000000):FSem C 130 [lbs l] [] fun r st=>r=.ret (A8 (Ai l))∧st=[]:=by
 refine FSem.en 22 Tryz.func130 ?_
 simp only [Aj]
 refine WC.go ?_
 refine WC.rs fun K hK=>?_
 simp only [↓EJ,FY,simprocAttr,lbs,List.length_map]
 refine hK _ ?_;clear hK K
 refine WC.bs fun K0 hK0=>?_
 refine WC.loop (X:=Nat) (fun k=>⟨[(3,.int .i64 k),(0,.slc (l.map lb))],[],[],[]⟩) (fun k=>k≤l.length∧∀ j,k≤j→l.getD j 0=0) (fun k=>k) l.length [] ⟨Nat.le_refl _,fun j hj=>by simp [List.getD_eq_getElem?_getD,List.getElem?_eq_none hj]⟩ ?_ ?_
 ·exact Conv.all (by simp only [EC,simprocAttr,Ab l _])
 ·rintro k ⟨h1,h2⟩
  refine Am fun K3 hK3=>?_
  by_cases hk:k=0
  ·subst hk
   refine WC.go (Aa [0,2,3,15] ?_)
   refine WC.cond rfl (fun h=>?_) fun h=>?_
   ·cases h
   refine WC.exit (hK0 _ ?_)
   have ht:=H0 hl h1 h2 (.inl rfl)
   have hz:Ai l=0:=toL_eq_nil.1 (by rw [←ht,List.take_zero])
   refine WC.rs fun K hK=>?_
   simp only [↓EJ,FY,simprocAttr,List.length_map,List.take_zero]
   refine ⟨by omega,Ot,?_⟩
   refine hK _ ?_;clear hK K
   refine WC.ret ?_
   simp only [↓EJ,FY,simprocAttr,EQ,EF,Tryz.results130]
   exact An (of_eq_true (Av _)) (by rw [hz];rfl)
  ·have hg:gi (l.map lb) (k - 1)=lb (l.getD (k - 1) 0):=Df (by omega)
   have hw:IntKind.wrap .i64 ((k:Int) - 1)=((k - 1:Nat):Int):=by rw [w64 (by omega) (by omega)];omega
   have hk0:((0:Int) < (k:Int))=True:=eq_true (by omega)
   have hk1:(((k - 1:Nat):Int) < (l.length:Int)):=by omega
   by_cases hz:l.getD (k - 1) 0=0
   ·refine WC.rs fun K hK=>?_
    simp only [↓EJ,FY,simprocAttr,hk0,hw,hg,lb,hz,Int.toNat_natCast,List.length_map]
    repeat refine And.intro (by omega) ?_
    refine hK _ (Aa [0,2,3,15] ?_);clear hK K
    refine WC.cond rfl (fun h=>?_) fun h=>?_
    rotate_left
    ·simp at h
    refine WC.skip (hK3 _ ?_)
    refine WC.b1 ?_
    refine WC.r1 ?_
    simp only [↓EJ,FY,simprocAttr,hw]
    try simp only [EQ,simprocAttr]
    refine ⟨k - 1,[],⟨by omega,fun j hj=>?_⟩,by omega,?_⟩
    ·rcases Nat.lt_or_ge j k with h' | h'
     ·rw [show j=k - 1 by omega];exact hz
     ·exact h2 j h'
    ·exact Conv.all (by simp only [EC,simprocAttr,Ab l _])
   ·have e0:(((l.getD (k - 1) 0:Nat):Int)=0)=False:=eq_false (by omega)
    refine WC.rs fun K hK=>?_
    simp only [↓EJ,FY,simprocAttr,hk0,hw,hg,lb,e0,Int.toNat_natCast,List.length_map]
    repeat refine And.intro (by omega) ?_
    refine hK _ (Aa [0,2,3,15] ?_);clear hK K
    refine WC.cond rfl (fun h=>?_) fun h=>?_
    ·simp at h
    refine WC.exit (hK0 _ ?_)
    have ht:=H0 hl h1 h2 (.inr hz)
    have hlen:(l.take k).length=k:=by rw [List.length_take];omega
    have hn0:Ai l≠0:=fun e=>by rw [e,Cq] at ht;rw [ht] at hlen;simp at hlen;omega
    obtain ⟨x,xs,hxs⟩:∃ x xs,l.take k=x::xs:=by
     cases hc:l.take k with
     | nil=>rw [hc] at hlen;simp at hlen;omega
     | cons x xs=>exact ⟨x,xs,rfl⟩
    have hm:List.take k (l.map lb)=lb x::xs.map lb:=by rw [←List.map_take,hxs];rfl
    have hxl:xs.length + 1=k:=by rw [hxs] at hlen;exact hlen
    refine WC.rs fun K hK=>?_
    simp only [↓EJ,FY,simprocAttr,List.length_map,Int.toNat_natCast,List.drop_zero,hm]
    refine ⟨by omega,by omega,Ot,by omega,⟨rfl,Ot⟩,by omega,by omega,?_⟩
    refine hK _ ?_;clear hK K
    refine WC.frz 2 0 rfl rfl (by simp) ?_
    refine WC.ret ?_
    simp only [↓EJ,FY,simprocAttr,EQ,EF,Tryz.results130]
    refine An (of_eq_true (Av _)) ?_
    rw [Il hn0,← ht,hxs,lbs,List.map_cons]
    simp [List.take_of_length_le]
theorem Mt (n:Nat) (h:okN n):FSem C 130 [A8 n] [] fun r st=>r=.ret (A8 n)∧st=[]:=by
 have:=G3 (toL n) (Bo n) (Nat.le_trans h (by decide))
 rw [Br] at this
 exact this.weak ⟨Zp n,trivial⟩
theorem numV_len (n:Nat):∃ xs,A8 n=.slc xs∧xs=(toL n).map lb∨(A8 n=.nils∧n=0):=by
 by_cases h:n=0
 ·exact ⟨[],.inr ⟨by rw [h];rfl,h⟩⟩
 ·exact ⟨_,.inl ⟨Il h,rfl⟩⟩
theorem rcmp_sem (x y:Nat) (hx:okN x) (hy:okN y):FSem C 136 [A8 x,A8 y] [] fun r st=>r=.ret (.int .i64 (Kl x y))∧st=[]:=by
 have tx:=Mt x hx
 have ty:=Mt y hy
 unfold okN at hx hy
 refine FSem.en 45 Tryz.func136 ?_
 simp only [Aj]
 refine WC.go ?_
 refine WC.rs fun K hK=>?_
 simp only [↓EJ,FY,simprocAttr]
 refine CallX.mk (CallW.pure tx (by simp only [CL,Av,and_self]) (by simp only [Av]) ?_)
 simp only [↓EJ,FY,simprocAttr]
 refine CallX.mk (CallW.pure ty (by simp only [CL,Av,and_self]) (by simp only [Av]) ?_)
 simp only [↓EJ,FY,simprocAttr]
 refine hK _ ?_;clear hK K
 refine Vf 0 (nv x) rfl (fun V v=>Z6 x) ?_
 refine Vf 1 (nv y) rfl (fun V v=>Z6 y) ?_
 unfold nv
 have hla:=Bo x
 have hlb:=Bo y
 have hva:=Br x
 have hvb:=Br y
 have hlen1:(toL x).length < (toL y).length→x < y:=Qk
 have hlen2:(toL y).length < (toL x).length→y < x:=Qk
 generalize toL x=s at *
 generalize toL y=t at *
 refine Am fun K1 hK1=>?_
 refine WC.rs fun K hK=>?_
 simp only [↓EJ,FY,simprocAttr,lbs,List.length_map]
 refine hK _ (Aa [0,1,4,5,14,19,24,35,44] ?_);clear hK K
 refine WC.cond rfl (fun h=>?_) fun h=>?_
 ·have hne:s.length≠t.length:=by intro e;simp [e] at h
  refine Am fun K2 hK2=>?_
  refine WC.go ?_
  refine WC.cond rfl (fun h=>?_) fun h=>?_
  ·have hlt:s.length < t.length:=by simpa using h
   refine WC.go ?_
   refine WC.ret ?_
   simp only [↓EJ,FY,simprocAttr,EQ,EF,Tryz.results136]
   refine An (by simp only [CL]) ?_
   rw [Kl,if_pos (hlen1 hlt)]
  ·have hgt:t.length < s.length:=by simp at h;omega
   refine WC.skip (hK2 _ ?_)
   refine WC.go ?_
   refine WC.ret ?_
   simp only [↓EJ,FY,simprocAttr,EQ,EF,Tryz.results136]
   refine An (by simp only [CL]) ?_
   have:=hlen2 hgt
   rw [Kl,if_neg (by omega),if_neg (by omega)]
 ·have he:s.length=t.length:=by
   have:((s.length:Int)=t.length):=by simpa using h
   omega
  refine WC.skip (hK1 _ ?_)
  refine Am fun K3 hK3=>?_
  refine WC.rs fun K hK=>?_
  simp (disch:=omega) only [↓EJ,FY,simprocAttr,w64,Bh,List.length_map]
  refine hK _ (Aa [0,1,4,5,24,35,44] ?_);clear hK K
  refine WC.b1 ?_
  refine WC.loop (X:=Nat) (fun i=>⟨[(5,.int .i64 ((i:Int) - 1)),(4,.int .i64 0),(1,.slc (t.map lb)),(0,.slc (s.map lb))],[],[],[]⟩) (fun i=>i≤s.length∧s.drop i=t.drop i) (fun i=>i) s.length [] ⟨Nat.le_refl _,by rw [List.drop_length,he,List.drop_length]⟩ ?_ ?_
  ·exact Conv.all (by simp only [EC,simprocAttr,Ab s _,Ab t _])
  ·rintro i ⟨h1,h2⟩
   refine Am fun K4 hK4=>?_
   refine WC.go ?_
   refine WC.cond rfl (fun h=>?_) fun h=>?_
   ·have hi:0 < i:=by simp at h;omega
    have e1:((i:Int) - 1).toNat=i - 1:=by omega
    have gs:gi (s.map lb) (i - 1)=.int .u32 (s.getD (i - 1) 0):=Df (by omega)
    have gt':gi (t.map lb) (i - 1)=.int .u32 (t.getD (i - 1) 0):=Df (by omega)
    have hup:s.drop (i - 1 + 1)=t.drop (i - 1 + 1):=by rw [show i - 1 + 1=i by omega];exact h2
    refine WC.skip (hK4 _ ?_)
    refine WC.bs fun K5 hK5=>?_
    refine Am fun K6 hK6=>?_
    refine WC.dg [⟨0,0,false,[]⟩,⟨1,0,false,[]⟩,⟨2,0,false,[]⟩,⟨3,0,false,[]⟩,⟨4,0,false,[]⟩,⟨5,0,false,[]⟩,⟨6,0,false,[]⟩,⟨7,0,false,[]⟩,⟨8,0,false,[]⟩] [0,0,3,7,0,0,48,112,255] fun K hK=>?_
    simp only [↓EJ,FY,simprocAttr,List.length_map,gs,gt',e1]
    repeat refine And.intro (by omega) ?_
    refine hK _ (Aa [0,1,4,5,24,35,44] ?_);clear hK K
    refine WC.cond rfl (fun h=>?_) fun h=>?_
    ·have hlt:s.getD (i - 1) 0 < t.getD (i - 1) 0:=by simpa using h
     refine WC.go ?_
     refine WC.ret ?_
     simp only [↓EJ,FY,simprocAttr,EQ,EF,Tryz.results136]
     refine An (by simp only [CL]) ?_
     have:=Vb hla (by omega) he hup hlt
     rw [hva,hvb] at this
     rw [Kl,if_pos this]
    ·have hnlt:¬ s.getD (i - 1) 0 < t.getD (i - 1) 0:=by simpa using h
     refine WC.skip (hK6 _ ?_)
     refine WC.dg [⟨0,0,false,[]⟩,⟨1,0,false,[]⟩,⟨2,0,false,[]⟩,⟨3,0,false,[]⟩,⟨4,0,false,[]⟩,⟨5,0,false,[]⟩,⟨6,0,false,[]⟩,⟨7,0,false,[]⟩,⟨8,0,false,[]⟩] [0,0,3,7,0,0,48,112,255] fun K hK=>?_
     simp only [↓EJ,FY,simprocAttr,List.length_map,gs,gt',e1]
     repeat refine And.intro (by omega) ?_
     refine hK _ (Aa [0,1,4,5,24,35,44] ?_);clear hK K
     refine WC.cond rfl (fun h=>?_) fun h=>?_
     ·have hgt:t.getD (i - 1) 0 < s.getD (i - 1) 0:=by simpa using h
      refine WC.go ?_
      refine WC.ret ?_
      simp only [↓EJ,FY,simprocAttr,EQ,EF,Tryz.results136]
      refine An (by simp only [CL]) ?_
      have:=Vb hlb (by omega) he.symm hup.symm hgt
      rw [hva,hvb] at this
      rw [Kl,if_neg (by omega),if_neg (by omega)]
     ·have hngt:¬ t.getD (i - 1) 0 < s.getD (i - 1) 0:=by simpa using h
      refine WC.skip (hK5 _ ?_)
      refine WC.r1 ?_
      simp (disch:=omega) only [↓EJ,FY,simprocAttr,w64,Bh]
      try simp only [EQ,simprocAttr]
      refine ⟨i - 1,[],⟨by omega,?_⟩,by omega,?_⟩
      ·rw [List.drop_eq_getElem_cons (show i - 1 < s.length by omega),List.drop_eq_getElem_cons (show i - 1 < t.length by omega),hup]
       have e:s.getD (i - 1) 0=t.getD (i - 1) 0:=by omega
       rw [I4 (by omega),I4 (by omega)] at e
       rw [e]
      ·have e2:((i - 1:Nat):Int)=(i:Int) - 1:=by omega
       exact Conv.all (by simp only [EC,simprocAttr,e2,Ab s _,Ab t _])
   ·have hi:i=0:=by simp at h;omega
    subst hi
    rw [List.drop_zero,List.drop_zero] at h2
    refine WC.exit (hK3 _ ?_)
    refine WC.go ?_
    refine WC.ret ?_
    simp only [↓EJ,FY,simprocAttr,EQ,EF,Tryz.results136]
    refine An (by simp only [CL]) ?_
    have:x=y:=by rw [←hva,← hvb,h2]
    rw [Kl,if_neg (by omega),if_pos this]
theorem Yj (l:List Nat) (d:Nat) (hl:lim l) (hn:l.length≤100000) (hd:0 < d) (hdB:d < B) :
  FSem C 131 [lbs l,lb d] [] fun r st=>r=.ret (.tuple [A8 (Ai l / d),lb (Ai l % d)])∧st=[]:=by
 refine FSem.en 44 Tryz.func131 ?_
 simp only [Aj]
 refine WC.go ?_
 refine WC.rs fun K hK=>?_
 simp (disch:=omega) only [↓EJ,FY,simprocAttr,w64,Bh,lbs,List.length_map,Int.toNat_natCast]
 repeat refine And.intro (by omega) ?_
 refine hK _ ?_;clear hK K
 rw [Hm]
 refine WC.go ?_
 refine Am fun K1 hK1=>?_
 refine WC.rs fun K hK=>?_
 simp (disch:=omega) only [↓EJ,FY,simprocAttr,w64,Bh,List.length_map]
 refine hK _ (Aa [0,1,4,5,6,7,8,9,17] ?_);clear hK K
 refine WC.b1 ?_
 refine WC.loop (X:=Nat × List Nat × Nat) (fun x=>⟨[(8,.int .i64 ((x.1:Int) - 1)),(7,.int .u64 x.2.2),(6,.ref (.l 0) 0 l.length),(1,lb d),(0,.slc (l.map lb))],[],[.row (x.2.1.map lb) 1 151],[]⟩)
  (fun x=>x.1≤l.length∧x.2.1.length=l.length∧lim x.2.1∧x.2.2 < d∧Ai (l.drop x.1)=d * Ai (x.2.1.drop x.1) + x.2.2) (fun x=>x.1) (l.length,List.replicate l.length 0,0) [0]
  ⟨Nat.le_refl _,by simp,F2 _,hd,by simp [Ai]⟩ ?_ ?_
 ·exact Conv.all (by simp only [EC,simprocAttr,Ab l _,Ab _ _,lb,Int.cast_ofNat_Int])
 ·rintro ⟨i,o,r⟩ ⟨h1,h2,h3,h4,h5⟩
  dsimp only at h1 h2 h3 h4 h5 ⊢
  refine Am fun K2 hK2=>?_
  refine WC.go ?_
  refine WC.cond rfl (fun h=>?_) fun h=>?_
  ·have hi:0 < i:=by simp at h;omega
   have e1:((i:Int) - 1).toNat=i - 1:=by omega
   have hg:gi (l.map lb) (i - 1)=lb (l.getD (i - 1) 0):=Df (by omega)
   have hx:l.getD (i - 1) 0 < B:=Be hl _
   have hld:=Hc (l:=l) (i:=i - 1) (by omega)
   rw [show i - 1 + 1=i by omega,h5] at hld
   generalize l.getD (i - 1) 0=x at *
   have ho:(o.map lb)[i - 1]? = some (lb (o.getD (i - 1) 0)):=Cc (by omega)
   obtain ⟨d1,d2,d3⟩:=U9 h4 hx hdB
   refine WC.skip (hK2 _ ?_)
   refine WC.bs fun K3 hK3=>?_
   have hrB:r < B:=Nat.lt_trans h4 hdB
   have cs:IntKind.wrap .u64 ((r:Int) * 4294967296)=(r:Int) * 4294967296:=Bh (by omega) (by rw [Bv] at hrB;omega)
   have hj:=Mz hrB hx
   have cx:=At (Nat.lt_trans hx (by decide))
   have cd:=At (Nat.lt_trans hdB (by decide))
   have hz:((d:Int)=0)=False:=eq_false (by omega)
   have hm:=Nat.div_add_mod (r * B + x) d
   have hfB:r * B + x < 18446744073709551616:=Nat.lt_of_lt_of_le d3 (by decide)
   have cq:=At (n:=(r * B + x) / d) (Nat.lt_of_le_of_lt (Nat.div_le_self _ _) hfB)
   have cq2:=Ff d1
   refine WC.rs fun K hK=>?_
   simp only [↓EJ,FY,simprocAttr,List.length_map,hg,e1,Jr,lb,Gc,cs,cx,hj]
   repeat refine And.intro (by omega) ?_
   refine hK _ (Aa [0,1,4,5,6,7,8,9,17] ?_);clear hK K
   refine WC.rs fun K hK=>?_
   simp only [↓EJ,FY,simprocAttr,List.length_map,ho,e1,lb,cd,Zv,hz,cq,cq2]
   repeat refine And.intro (by omega) ?_
   refine hK _ (Aa [0,1,4,5,6,7,8,9,17] ?_);clear hK K
   rw [Cn]
   refine WC.r1 ?_
   simp only [↓EJ,FY,simprocAttr,lb,cd,V7,hz]
   repeat refine And.intro (by omega) ?_
   refine hK3 _ ?_
   refine WC.r1 ?_
   simp (disch:=omega) only [↓EJ,FY,simprocAttr,w64,Bh]
   try simp only [EQ,simprocAttr]
   have e2:((i - 1:Nat):Int)=(i:Int) - 1:=by omega
   refine ⟨(i - 1,o.set (i - 1) ((r * B + x) / d),(r * B + x) % d),[0],⟨by dsimp only;omega,by dsimp only;simp [h2],Cr h3 _ d1,d2,?_⟩,by dsimp only;omega,?_⟩
   ·dsimp only
    rw [hld,Hc (l:=o.set (i - 1) _) (by simp;omega),Num.getD_set_eq (by omega),Dw (by omega),show i - 1 + 1=i by omega]
    generalize (r * B + x) / d=q at *
    generalize (r * B + x) % d=m at *
    generalize Ai (o.drop i)=w at *
    rw [Nat.mul_add,Nat.mul_add,Nat.mul_left_comm B d w,Nat.mul_comm B r]
    omega
   ·exact Conv.all (by simp only [EC,simprocAttr,e2,Ab l _,Ab _ _,lb,Cn])
  ·have hi:i=0:=by simp at h;omega
   subst hi
   rw [List.drop_zero,List.drop_zero] at h5
   refine WC.exit (hK1 _ ?_)
   refine WC.frz 6 0 rfl rfl (by simp [h2]) ?_
   have e5:((o.map lb).drop 0).take l.length=o.map lb:=by rw [List.drop_zero,List.take_of_length_le (by simp [h2])]
   rw [e5]
   have hq:Ai o=Ai l / d:=by rw [h5,Nat.mul_add_div hd,Nat.div_eq_of_lt h4,Nat.add_zero]
   have hr:r=Ai l % d:=by rw [h5,Nat.mul_add_mod,Nat.mod_eq_of_lt h4]
   have htr:=G3 o h3 (by omega)
   rw [hq] at htr
   have cr:=Ff (Nat.lt_trans h4 hdB)
   refine WC.rs fun K hK=>?_
   simp only [↓EJ,FY,simprocAttr]
   refine CallX.mk (CallW.pure htr (by simp only [CL,Ab,and_self]) (by simp only [Av]) ?_)
   simp only [↓EJ,FY,simprocAttr,cr]
   refine hK _ ?_;clear hK K
   refine WC.ret ?_
   simp only [↓EJ,FY,simprocAttr,EQ,EF,Tryz.results131]
   exact An (of_eq_true (by simp only [CL,Av,As,and_self])) (by rw [hr];rfl)
end Go.LexSem
-- TIGHT
set_option maxHeartbeats 8000000
set_option maxRecDepth 8000
namespace Go.LexSem
open Go Go.V Go.Proofs Go.Num

theorem rshl_step {o l:List Nat} {i c d P x:Nat} (h:Ai (o.take i) + B ^ i * c=Ai (l.take i) * P) (hd:d=l.getD i 0) (hi:i < o.length) (hx:x=d * P + c) :
  Ai ((o.set i (x % B)).take (i + 1)) + B ^ (i + 1) * (x / B)=Ai (l.take (i + 1)) * P:=by
 have hm:x % B + B * (x / B)=x:=Nat.mod_add_div x B
 rw [Aq (o.set i (x % B)) i,Cl (Nat.le_refl i),Num.getD_set_eq hi,Aq l i,← hd,Nat.pow_succ,Nat.add_mul,← h,Nat.mul_assoc (B ^ i) B,Nat.add_assoc,← Nat.mul_add,hm,hx,Nat.mul_add,Nat.mul_assoc (B ^ i) d P]
 omega
theorem rshl_num {k d c:Nat} (hk:k≤31) (hd:d < B) (hc:c < 2 ^ k):d * 2 ^ k + c < 18446744073709551616∧(d * 2 ^ k + c) / B < 2 ^ k∧d * 2 ^ k < 18446744073709551616:=by
 have hp:=Gg hk
 have h1:d * 2 ^ k + c < B * 2 ^ k:=by
  have:(d + 1) * 2 ^ k≤B * 2 ^ k:=Nat.mul_le_mul_right _ hd
  rw [Nat.add_mul,Nat.one_mul] at this;omega
 have h2:B * 2 ^ k≤B * 2147483648:=Nat.mul_le_mul_left _ hp
 refine ⟨?_,?_,?_⟩
 ·rw [Bv] at *;omega
 ·rw [Nat.div_lt_iff_lt_mul Bz,Nat.mul_comm (2 ^ k) B];exact h1
 ·rw [Bv] at *;omega
theorem orK {x y k:Nat} (hx:x < 18446744073709551616) (hy:y < 2 ^ k) (hk:k≤31) (hm:x % 2 ^ k=0):Go.bits .or .u64 (x:Int) (y:Int)=((x + y:Nat):Int):=by
 have:=Gg hk
 rw [u64_or_nat _ _ hx (by omega),nat_join k _ _ hm hy]
theorem Rb (l:List Nat) (k:Nat) (hl:lim l) (hn:l.length≤100000) (hk:k≤31) :
  FSem C 153 [lbs l,.int .i64 k] [] fun q st=>∃ p b,ShiftR l k p b∧q=.ret p∧st=[b]:=by
 have e1:((l.length:Int) + 1).toNat=l.length + 1:=by omega
 have hp:0 < 2 ^ k:=Nat.pow_pos (by decide)
 have hwk:IntKind.wrap .u64 (k:Int)=(k:Int):=At (by omega)
 refine FSem.en 43 Tryz.func153 ?_
 simp only [Aj]
 refine WC.go ?_
 refine WC.rs fun K hK=>?_
 simp (disch:=omega) only [↓EJ,FY,simprocAttr,w64,Bh,lbs,List.length_map,e1]
 repeat refine And.intro (by omega) ?_
 refine hK _ ?_;clear hK K
 rw [Hm]
 refine WC.go ?_
 refine Am fun K1 hK1=>?_
 refine WC.go ?_
 refine WC.b1 ?_
 refine WC.loop (X:=Nat × List Nat × Nat) (fun x=>⟨[(7,.int .i64 x.1),(6,.int .u64 x.2.2),(5,.ref (.l 0) 0 (l.length + 1)),(1,.int .i64 k),(0,.slc (l.map lb))],[],[.row (x.2.1.map lb) 1 151],[]⟩)
  (fun x=>x.1≤l.length∧x.2.1.length=l.length + 1∧lim x.2.1∧Ai (x.2.1.take x.1) + B ^ x.1 * x.2.2=Ai (l.take x.1) * 2 ^ k∧x.2.2 < 2 ^ k) (fun x=>l.length - x.1) (0,List.replicate (l.length + 1) 0,0) [0]
  ⟨Nat.zero_le _,by simp,F2 _,by simp [Ai],hp⟩ ?_ ?_
 ·exact Conv.all (by simp only [EC,simprocAttr,Ab l _,Ab _ _,Int.cast_ofNat_Int])
 ·rintro ⟨i,o,c⟩ ⟨h1,h2,h3,h4,h5⟩
  dsimp only at h1 h2 h3 h4 h5 ⊢
  refine Am fun K3 hK3=>?_
  refine WC.go (Aa [0,1,4,5,6,7,8,16] ?_)
  refine WC.cond rfl (fun h=>?_) fun h=>?_
  ·have hlt:i < l.length:=by simpa using h
   have hg:=Df hlt
   have hd:=Be hl i
   have hst:=rshl_step (o:=o) (l:=l) (i:=i) (c:=c) (P:=2 ^ k) h4 rfl (by omega) rfl
   generalize l.getD i 0=d at *
   obtain ⟨s1,s2,s3⟩:=rshl_num hk hd h5
   have w0:=At (Nat.lt_trans hd (by decide))
   have w1:=At s3
   have hor:=orK s3 h5 hk (Nat.mul_mod_left _ _)
   generalize d * 2 ^ k + c=x at *
   refine WC.skip (hK3 _ ?_)
   refine WC.bs fun K4 hK4=>?_
   refine WC.rs fun K hK=>?_
   simp only [↓EJ,FY,simprocAttr,List.length_map,hg,lb,w0,hwk,Int.toNat_natCast,shlN hk,w1,hor]
   repeat refine And.intro (by omega) ?_
   refine hK _ (Aa [0,1,4,5,6,7,8,16] ?_);clear hK K
   have ho:(o.map lb)[i]? = some (lb (o.getD i 0)):=Cc (by omega)
   have e2:(x:Int) % 4294967296=((x % B:Nat):Int):=by rw [Bv];omega
   have e3:(x:Int) / 4294967296=((x / B:Nat):Int):=by rw [Bv];omega
   have w2:=At (n:=x / B) (Nat.lt_of_le_of_lt (Nat.div_le_self _ _) s1)
   refine WC.rs fun K hK=>?_
   simp only [↓EJ,FY,simprocAttr,ho,lb,Int.toNat_natCast,Iv,e2,List.length_map]
   repeat refine And.intro (by omega) ?_
   refine hK _ ?_;clear hK K
   rw [Cn]
   refine WC.r1 ?_
   simp only [↓EJ,FY,simprocAttr,Dd,e3,w2]
   refine hK4 _ ?_
   refine WC.r1 ?_
   simp (disch:=omega) only [↓EJ,FY,simprocAttr,w64,Bh]
   try simp only [EQ,simprocAttr]
   refine ⟨(i + 1,o.set i (x % B),x / B),[0],⟨by dsimp only;omega,by dsimp only;simp [h2],Cr h3 _ (Nat.mod_lt _ Bz),hst,s2⟩,by dsimp only;omega,?_⟩
   exact Conv.all (by simp only [EC,simprocAttr,Int.natCast_add,Ab l _,Ab _ _,lb])
  ·have hge:i=l.length:=by simp at h;omega
   subst hge
   refine WC.exit (hK1 _ ?_)
   have ho:(o.map lb)[l.length]? = some (lb (o.getD l.length 0)):=Cc (by omega)
   have hpk:=Gg hk
   have wc:=Ff (n:=c) (Nat.lt_of_lt_of_le h5 (Nat.le_trans hpk (by decide)))
   have hv:=Aq (o.set l.length c) l.length
   rw [Cl (Nat.le_refl _),Num.getD_set_eq (by omega),h4,A5 (l:=l) (Nat.le_refl _),A5 (by simp;omega)] at hv
   have hgd:(o.set l.length c).getD l.length 0=c:=Num.getD_set_eq (by omega) _
   refine WC.rs fun K hK=>?_
   simp only [↓EJ,FY,simprocAttr,List.length_map,Int.toNat_natCast,ho,lb,wc]
   repeat refine And.intro (by omega) ?_
   refine hK _ (Aa [0,1,4,5,6,7] ?_);clear hK K
   rw [Cn]
   refine WC.go ?_
   refine WC.ret ?_
   simp only [↓EJ,FY,simprocAttr,EQ,EF,Tryz.results153]
   have hl2:lim (o.set l.length c):=Cr h3 _ (Nat.lt_of_lt_of_le h5 (Nat.le_trans hpk (by decide)))
   have hn2:(o.set l.length c).length=l.length + 1:=by simp [h2]
   generalize o.set l.length c=o2 at *
   refine ⟨[0],.ref (.o 0) 0 (l.length + 1),[.row (o2.map lb) 1 151],by simp,by simp,by simp,rfl,fun j x hx=>?_,_,_,⟨o2,⟨hl2,hn2,hv,by rw [hgd];exact h5⟩,rfl,rfl⟩,rfl,rfl⟩
   cases j with
   | zero=>simp at hx;subst hx;simp [Ny,Ao,Cu,Ab o2 _]
   | succ j=>simp at hx
theorem Uk (l:List Nat) (k R:Nat) (hl:lim l) (hn:l.length≤100000) (hn0:0 < l.length) (hk:k≤31) (hR:Ai l=R * 2 ^ k) :
  FSem C 155 [lbs l,.int .i64 k] [] fun r st=>r=.ret (A8 R)∧st=[]:=by
 have hwk:IntKind.wrap .u64 (k:Int)=(k:Int):=At (by omega)
 refine FSem.en 46 Tryz.func155 ?_
 simp only [Aj]
 refine WC.go ?_
 refine WC.rs fun K hK=>?_
 simp (disch:=omega) only [↓EJ,FY,simprocAttr,w64,Bh,lbs,List.length_map,Int.toNat_natCast]
 repeat refine And.intro (by omega) ?_
 refine hK _ ?_;clear hK K
 rw [Hm]
 refine Am fun K1 hK1=>?_
 refine WC.go ?_
 refine WC.b1 ?_
 refine WC.loop (X:=Nat × List Nat) (fun z=>⟨[(6,.int .i64 z.1),(5,.ref (.l 0) 0 l.length),(1,.int .i64 k),(0,.slc (l.map lb))],[],[.row (z.2.map lb) 1 151],[]⟩)
  (fun z=>z.1≤l.length∧z.2.length=l.length∧lim z.2∧2 ^ k * Ai (z.2.take z.1) + l.getD 0 0 % 2 ^ k=Ai (l.take z.1) + B ^ z.1 * (l.getD z.1 0 % 2 ^ k)) (fun z=>l.length - z.1) (0,List.replicate l.length 0) [0]
  ⟨Nat.zero_le _,by simp,F2 _,by simp [Ai]⟩ ?_ ?_
 ·exact Conv.all (by simp only [EC,simprocAttr,Ab l _,Ab _ _,Int.cast_ofNat_Int])
 ·rintro ⟨i,z⟩ ⟨p1,p2,p3,p4⟩
  dsimp only at p1 p2 p3 p4 ⊢
  refine Am fun K3 hK3=>?_
  refine WC.go (Aa [0,1,4,5,6,7,14,26] ?_)
  refine WC.cond rfl (fun h=>?_) fun h=>?_
  ·have hlt:i < l.length:=by simpa using h
   have x1:=Df hlt
   have y1:=Be hl i
   have y2:=Be hl (i + 1)
   have wi:=w64 (x:=(i:Int) + 1) (by omega) (by omega)
   have zi:((i:Int) + 1).toNat=i + 1:=by omega
   have c1:=At (Nat.lt_trans y1 (by decide))
   have c2:=At (Nat.lt_trans y2 (by decide))
   have cs:IntKind.wrap .u64 ((l.getD (i + 1) 0:Int) * 4294967296)=(l.getD (i + 1) 0:Int) * 4294967296:=Bh (by omega) (by rw [Bv] at y2;omega)
   have hjn:Go.bits .or .u64 (l.getD i 0:Int) ((l.getD (i + 1) 0:Int) * 4294967296)=((l.getD (i + 1) 0 * B + l.getD i 0:Nat):Int):=by
    rw [Bv] at *
    rw [show (l.getD (i + 1) 0:Int) * 4294967296=((l.getD (i + 1) 0 * 4294967296:Nat):Int) by omega,u64_or_nat _ _ (by omega) (by omega),Nat.or_comm,nat_join 32 _ _ (by omega) (by omega)]
   have hsh:=Wc (r:=z.set i ((l.getD (i + 1) 0 * B + l.getD i 0) / 2 ^ k % B)) (i:=i) hk hl (by rw [Cl (Nat.le_refl _)];exact p4) (Num.getD_set_eq (by omega) _)
   have hfB:l.getD (i + 1) 0 * B + l.getD i 0 < 18446744073709551616:=by rw [Bv] at *;omega
   have x2:i + 1 < l.length→gi (l.map lb) (i + 1)=lb (l.getD (i + 1) 0):=fun h=>Df h
   have hz0:¬ i + 1 < l.length→l.getD (i + 1) 0 * B + l.getD i 0=l.getD i 0:=fun h=>by
    rw [List.getD_eq_getElem?_getD,List.getElem?_eq_none (by omega)];simp
   generalize hF:l.getD (i + 1) 0 * B + l.getD i 0=f at *
   have hfd:=Nat.lt_of_le_of_lt (Nat.div_le_self f (2 ^ k)) hfB
   have cf:=At hfd
   have e31:((f / 2 ^ k:Nat):Int) % 4294967296=((f / 2 ^ k % B:Nat):Int):=by rw [Bv];omega
   refine WC.skip (hK3 _ ?_)
   refine WC.bs fun K4 hK4=>?_
   refine WC.rs fun K hK=>?_
   simp only [↓EJ,FY,simprocAttr,List.length_map,x1,lb,c1,Int.toNat_natCast]
   repeat refine And.intro (by omega) ?_
   refine hK _ ?_;clear hK K
   refine Bt (X:=Unit) (fun _=>True) (fun _=>⟨[(7,.int .u64 f),(6,.int .i64 i),(5,.ref (.l 0) 0 l.length),(1,.int .i64 k),(0,.slc (l.map lb))],[],[.row (z.map lb) 1 151],[]⟩) ?_ ?_
   ·refine WC.rs fun K hK=>?_
    simp only [↓EJ,FY,simprocAttr,wi,List.length_map]
    refine hK _ (Aa [0,1,4,5,6,7,14,26] ?_);clear hK K
    refine WC.cond rfl (fun h=>?_) fun h=>?_
    ·have hlt2:i + 1 < l.length:=by simp at h;omega
     refine WC.r1 ?_
     simp only [↓EJ,FY,simprocAttr,wi,zi,List.length_map,x2 hlt2,lb,c2,Gc,cs,hjn]
     repeat refine And.intro (by omega) ?_
     try simp only [EQ,simprocAttr]
     first | refine ⟨(),[0],trivial,?_⟩ | refine ⟨(),[0],?_⟩
     exact Conv.all (by simp only [EC,simprocAttr,Ab l _,Ab _ _])
    ·have hlt2:¬ i + 1 < l.length:=by simp at h;omega
     refine WC.skip ?_
     try simp only [EQ,simprocAttr]
     first | refine ⟨(),[0],trivial,?_⟩ | refine ⟨(),[0],?_⟩
     rw [hz0 hlt2]
     exact Conv.all (by simp only [EC,simprocAttr,Ab l _,Ab _ _])
   rintro ⟨⟩ _
   have xz:(z.map lb)[i]? = some (lb (z.getD i 0)):=Cc (by omega)
   refine WC.r1 ?_
   simp only [↓EJ,FY,simprocAttr,hwk,shrN hk,cf,Iv,e31,List.length_map,Int.toNat_natCast,xz,lb]
   repeat refine And.intro (by omega) ?_
   refine hK4 _ ?_
   rw [Cn]
   refine WC.r1 ?_
   simp (disch:=omega) only [↓EJ,FY,simprocAttr,w64,Bh]
   try simp only [EQ,simprocAttr]
   refine ⟨(i + 1,z.set i (f / 2 ^ k % B)),[0],⟨by dsimp only;omega,by dsimp only;simp [p2],Cr p3 _ (Nat.mod_lt _ Bz),hsh⟩,by dsimp only;omega,?_⟩
   exact Conv.all (by simp only [EC,simprocAttr,Int.natCast_add,Ab l _,Ab _ _])
  ·have hge:i=l.length:=by simp at h;omega
   subst hge
   refine WC.exit (hK1 _ ?_)
   have hv:Ai z=R:=Wr hk hl hn0 (Ck hl) hR p2 p4
   have htr:=G3 z p3 (by omega)
   rw [hv] at htr
   refine WC.frz 5 0 rfl rfl (by simp [p2]) ?_
   have e5:((z.map lb).drop 0).take l.length=z.map lb:=by rw [List.drop_zero,List.take_of_length_le (by simp [p2])]
   rw [e5]
   refine WC.rs fun K hK=>?_
   simp only [↓EJ,FY,simprocAttr]
   refine CallX.mk (CallW.pure htr (by simp only [CL,Ab,and_self]) (by simp only [Av]) ?_)
   simp only [↓EJ,FY,simprocAttr]
   refine hK _ ?_;clear hK K
   refine WC.ret ?_
   simp only [↓EJ,FY,simprocAttr,EQ,EF,Tryz.results155]
   exact An (of_eq_true (Av _)) rfl
end Go.LexSem
-- TIGHT
set_option maxHeartbeats 16000000
set_option maxRecDepth 8000
namespace Go.LexSem
open Go Go.V Go.Proofs Go.Num

/-- One limb of the subtraction, as the reference does it. -/
theorem rlimb_sub (ui d:Nat) (h1:ui < B) (h2:d≤B):∃ x' bo':Nat,x' < B∧bo'≤1∧x' + d=ui + B * bo'∧(bo'=1↔ui < d)∧(ui < d→ui + B - d=x')∧(¬ ui < d→ui - d=x'):=by
 by_cases h:ui < d
 ·exact ⟨ui + B - d,1,by omega,by omega,by omega,by omega,fun _=>rfl,fun h'=>absurd h h'⟩
 ·exact ⟨ui - d,0,by omega,by omega,by omega,by omega,fun h'=>absurd h' h,fun _=>rfl⟩
/-- What the digit leaves of the limbs. -/
def DigP (w z:List Nat) (j n U V:Nat):Prop:=z.length=w.length∧lim z∧z.take j=w.take j∧z.drop (j + n + 1)=w.drop (j + n + 1)∧seg z j (n + 1)=U % V
theorem Yt (w v:List Nat) (j n:Nat) (hw:lim w) (hv:lim v) (nl:v.length=n) (h2:2≤n) (hj:j + n < w.length) (hL:w.length≤200000)
  (E:Est (seg w j (n + 1)) (Ai v) n (v.getD (n - 1) 0) (v.getD (n - 2) 0) (w.getD (j + n) 0 * B + w.getD (j + n - 1) 0) (w.getD (j + n - 2) 0)) :
  FSem C 154 [.ref (.o 0) 0 w.length,lbs v,.int .i64 j] [.row (w.map lb) 1 151] fun r st=>∃ z,DigP w z j n (seg w j (n + 1)) (Ai v)∧r=.ret (lb (seg w j (n + 1) / Ai v))∧st=[.row (z.map lb) 1 151]:=by
 have hV0:0 < Ai v:=E.Vpos
 have hVB:Ai v < B ^ n:=by rw [←nl];exact Ck hv
 have a1:(w.map lb)[j + n]? = some (lb (w.getD (j + n) 0)):=Cc hj
 have a2:(w.map lb)[j + n - 1]? = some (lb (w.getD (j + n - 1) 0)):=Cc (by omega)
 have a3:(w.map lb)[j + n - 2]? = some (lb (w.getD (j + n - 2) 0)):=Cc (by omega)
 have b1:=Be hw (j + n)
 have b2:=Be hw (j + n - 1)
 have b3:=Be hw (j + n - 2)
 have z1:((j:Int) + (n:Int)).toNat=j + n:=by omega
 have z2:((j:Int) + (n:Int) - 1).toNat=j + n - 1:=by omega
 have z3:((j:Int) + (n:Int) - 2).toNat=j + n - 2:=by omega
 have c1:=At (Nat.lt_trans b1 (by decide))
 have c2:=At (Nat.lt_trans b2 (by decide))
 have c3:=At (Nat.lt_trans b3 (by decide))
 have hjn:=Mz b1 b2
 have cs:IntKind.wrap .u64 ((w.getD (j + n) 0:Int) * 4294967296)=(w.getD (j + n) 0:Int) * 4294967296:=Bh (by omega) (by rw [Bv] at b1;omega)
 have hwr:=w64 (x:=(j:Int) + (n:Int)) (by omega) (by omega)
 have hwr1:=w64 (x:=(j:Int) + (n:Int) - 1) (by omega) (by omega)
 have hwr2:=w64 (x:=(j:Int) + (n:Int) - 2) (by omega) (by omega)
 have hwn1:=w64 (x:=(n:Int) - 1) (by omega) (by omega)
 have hwn2:=w64 (x:=(n:Int) - 2) (by omega) (by omega)
 have t1:gi (v.map lb) (n - 1)=lb (v.getD (n - 1) 0):=Df (by omega)
 have t2:gi (v.map lb) (n - 2)=lb (v.getD (n - 2) 0):=Df (by omega)
 have t1B:=Be hv (n - 1)
 have t2B:=Be hv (n - 2)
 have f1:((n:Int) - 1).toNat=n - 1:=by omega
 have f2:((n:Int) - 2).toNat=n - 2:=by omega
 have w1:=At (Nat.lt_trans t1B (by decide))
 have w2:=At (Nat.lt_trans t2B (by decide))
 have nt:=E.ht
 have hfB:w.getD (j + n) 0 * B + w.getD (j + n - 1) 0 < B * B:=by
  have:w.getD (j + n) 0 * B≤(B - 1) * B:=Nat.mul_le_mul_right _ (by omega)
  rw [Bv] at *;omega
 have E0:=E.start
 have htp0:v.getD (n - 1) 0≠0:=fun h0=>by rw [h0] at nt;exact absurd nt (by decide)
 generalize hU:seg w j (n + 1)=U at *
 generalize hfirst:w.getD (j + n) 0 * B + w.getD (j + n - 1) 0=first at *
 generalize hu2:w.getD (j + n - 2) 0=uu at *
 generalize htp:v.getD (n - 1) 0=tp' at *
 generalize hsc:v.getD (n - 2) 0=sc at *
 have q1:=At (n:=first / tp') (Nat.lt_of_le_of_lt (Nat.div_le_self _ _) (Nat.lt_of_lt_of_le hfB (by decide)))
 have tz:((tp':Int)=0)=False:=eq_false (by omega)
 refine FSem.en 179 Tryz.func154 ?_
 simp only [Aj]
 refine WC.go ?_
 refine WC.rs fun K hK=>?_
 simp only [↓EJ,FY,simprocAttr,lbs,List.length_map,nl]
 refine hK _ ?_;clear hK K
 refine WC.dg [⟨0,0,false,[]⟩,⟨1,0,false,[]⟩,⟨2,0,false,[]⟩,⟨3,0,false,[]⟩,⟨4,0,false,[]⟩,⟨5,0,false,[]⟩,⟨6,0,false,[]⟩,⟨7,0,false,[]⟩,⟨8,0,false,[]⟩,⟨9,0,false,[]⟩,⟨10,0,false,[]⟩,⟨11,0,false,[]⟩,⟨12,0,false,[]⟩,⟨13,0,false,[]⟩,⟨14,0,false,[]⟩,⟨15,0,false,[]⟩,⟨16,0,false,[]⟩,⟨17,0,false,[]⟩] [0,0,0,6,15,31,63,127,0,0,0,1536,3584,7936,16128,32512,65535,131071] fun K hK=>?_
 simp only [↓EJ,FY,simprocAttr,hwr,hwr1,z1,z2,a1,a2,lb,c1,c2,Gc,cs,hjn,List.length_map]
 repeat refine And.intro (by omega) ?_
 refine hK _ (Aa [0,1,2,6,7,8,9,10,11,12,13,14,15,16,17,18,81,93,96,102,127,140,145,159] ?_);clear hK K
 refine WC.dg [⟨0,0,false,[]⟩,⟨1,0,false,[]⟩,⟨2,0,false,[]⟩,⟨3,0,false,[]⟩,⟨4,0,false,[]⟩,⟨5,0,false,[]⟩,⟨6,0,false,[]⟩,⟨7,0,false,[]⟩,⟨8,0,false,[]⟩,⟨9,0,false,[]⟩,⟨10,0,false,[]⟩,⟨11,0,false,[]⟩,⟨12,0,false,[]⟩,⟨13,0,false,[]⟩,⟨14,0,false,[]⟩,⟨15,0,false,[]⟩,⟨16,0,false,[]⟩,⟨17,0,false,[]⟩] [0,0,0,4,14,30,62,127,0,0,0,1024,3584,7680,15872,32512,255,131071] fun K hK=>?_
 simp only [↓EJ,FY,simprocAttr,hwn1,f1,t1,lb,w1,Zv,V7,q1,tz,List.length_map,nl]
 repeat refine And.intro (by omega) ?_
 refine hK _ (Aa [0,1,2,6,7,9,10,11,12,13,14,15,16,17,18,81,93,96,102,127,140,145,159] ?_);clear hK K
 refine Bt (X:=Nat) (fun g=>U / Ai v≤g∧g≤U / Ai v + 1∧g < B) (fun g=>⟨[(9,.int .u64 g),(7,.int .i64 n),(0,.ref (.o 0) 0 w.length),(1,.slc (v.map lb)),(2,.int .i64 j)],[.row (w.map lb) 1 151],[],[]⟩) ?_ ?_
 ·refine WC.b1 ?_
  refine WC.loop (X:=Nat × Nat) (fun z=>⟨[(10,.int .u64 z.2),(9,.int .u64 z.1),(7,.int .i64 n),(0,.ref (.o 0) 0 w.length),(1,.slc (v.map lb)),(2,.int .i64 j)],[.row (w.map lb) 1 151],[],[]⟩)
   (fun z=>EstL U (Ai v) tp' first z.1 z.2∧z.2 < B) (fun z=>z.1) (first / tp',first % tp') [] ⟨E0,Nat.lt_trans (Nat.mod_lt _ (by omega)) t1B⟩ ?_ ?_
  ·exact Conv.all (by simp only [EC,simprocAttr,Ab _ _])
  rintro ⟨g,r⟩ ⟨g1,g2⟩
  dsimp only at g1 g2 ⊢
  have gle:=E.g_le g1
  refine Am fun K3 hK3=>?_
  refine Bt (X:=Unit) (fun _=>True) (fun _=>⟨[(81,.bool (decide (B≤g∨r * B + uu < g * sc))),(10,.int .u64 r),(9,.int .u64 g),(7,.int .i64 n),(0,.ref (.o 0) 0 w.length),(1,.slc (v.map lb)),(2,.int .i64 j)],[.row (w.map lb) 1 151],[],[]⟩) ?_ ?_
  ·have cr:((r:Int) < 4294967296)=True:=eq_true (by rw [Bv] at g2;omega)
   by_cases cg:g < B
   ·have cgi:((4294967296:Int)≤(g:Int))=False:=eq_false (by rw [Bv] at cg;omega)
    have hgs:g * sc < B * B:=Nat.mul_lt_mul_of_lt_of_lt cg t2B
    have e3:IntKind.wrap .u64 ((g:Int) * (sc:Int))=((g * sc:Nat):Int):=by
     rw [←Int.natCast_mul];exact At (Nat.lt_of_lt_of_le hgs (by decide))
    have e4:IntKind.wrap .u64 ((r:Int) * 4294967296)=(r:Int) * 4294967296:=Bh (by omega) (by rw [Bv] at g2;omega)
    have e6:=Mz g2 b3
    refine Dn [⟨0,0,false,[]⟩,⟨1,0,false,[]⟩,⟨2,0,false,[]⟩,⟨3,0,false,[]⟩,⟨4,0,false,[]⟩,⟨5,0,false,[]⟩,⟨6,0,false,[]⟩,⟨7,0,false,[]⟩,⟨8,0,false,[]⟩,⟨9,0,false,[]⟩,⟨10,0,false,[]⟩,⟨11,0,false,[]⟩,⟨12,0,false,[]⟩,⟨13,0,false,[]⟩,⟨14,0,false,[]⟩,⟨15,0,false,[]⟩,⟨16,0,false,[]⟩,⟨17,0,false,[]⟩,⟨18,0,false,[]⟩,⟨19,0,false,[]⟩,⟨20,0,false,[]⟩,⟨21,0,false,[]⟩,⟨22,0,false,[]⟩,⟨23,0,false,[]⟩,⟨24,0,false,[]⟩,⟨25,0,false,[]⟩,⟨26,0,false,[]⟩,⟨27,0,false,[]⟩] [0,1,3,7,15,31,63,63,63,319,959,1983,4031,8191,63,16447,63,63,63,393279,917567,2031679,4128831,8323135,16760895,33554431,67108863,134217727] ?_
    simp (maxSteps:=4000000) only [↓EJ,FY,simprocAttr,hwr,hwr2,hwn2,f2,t2,w2,z3,a3,lb,c3,Gc,cgi,cr,Bool.not_true,Bool.not_false,e3,e4,e6,List.length_map,nl]
    repeat refine And.intro (by omega) ?_
    try simp only [EQ,simprocAttr]
    refine ⟨(),[],?_⟩
    have hdec:decide (((r * B + uu:Nat):Int) < ((g * sc:Nat):Int))=decide (B≤g∨r * B + uu < g * sc):=by
     rw [decide_eq_decide,Int.ofNat_lt]
     exact ⟨Or.inr,fun h=>h.resolve_left (by omega)⟩
    rw [←hdec]
    exact Conv.all (by simp only [EC,simprocAttr,Ab _ _])
   ·have cgi:((4294967296:Int)≤(g:Int))=True:=eq_true (by rw [Bv] at cg;omega)
    refine Dn [⟨0,0,false,[]⟩,⟨1,0,false,[]⟩,⟨2,0,false,[]⟩,⟨3,0,false,[]⟩,⟨4,0,false,[]⟩,⟨5,0,false,[]⟩,⟨6,0,false,[]⟩,⟨7,0,false,[]⟩,⟨8,0,false,[]⟩,⟨9,0,false,[]⟩,⟨10,0,false,[]⟩,⟨11,0,false,[]⟩,⟨12,0,false,[]⟩,⟨13,0,false,[]⟩,⟨14,0,false,[]⟩,⟨15,0,false,[]⟩,⟨16,0,false,[]⟩,⟨17,0,false,[]⟩,⟨18,0,false,[]⟩,⟨19,0,false,[]⟩,⟨20,0,false,[]⟩,⟨21,0,false,[]⟩,⟨22,0,false,[]⟩,⟨23,0,false,[]⟩,⟨24,0,false,[]⟩,⟨25,0,false,[]⟩,⟨26,0,false,[]⟩,⟨27,0,false,[]⟩] [0,1,3,7,15,31,63,63,63,319,959,1983,4031,8191,63,16447,63,63,63,393279,917567,2031679,4128831,8323135,16760895,33554431,67108863,134217727] ?_
    simp (maxSteps:=4000000) only [↓EJ,FY,simprocAttr,cgi,Bool.not_true,Bool.not_false]
    try simp only [EQ,simprocAttr]
    refine ⟨(),[],?_⟩
    have hdec:decide (B≤g∨r * B + uu < g * sc)=true:=by simp;omega
    rw [hdec]
    exact Conv.all (by simp only [EC,simprocAttr,Ab _ _])
  rintro ⟨⟩ _
  refine WC.cond rfl (fun h=>?_) fun h=>?_
  ·have hc:B≤g∨r * B + uu < g * sc:=by simpa using h
   obtain ⟨L2,hg0⟩:=E.step g1 hc
   refine WC.skip (hK3 _ ?_)
   refine WC.b1 ?_
   have eg:(g:Int) - 1=((g - 1:Nat):Int):=by omega
   have er:(r:Int) + (tp':Int)=((r + tp':Nat):Int):=by omega
   have wg:=At (n:=g - 1) (by rw [Bv] at gle;omega)
   have wr:=At (n:=r + tp') (by rw [Bv] at g2 t1B;omega)
   refine WC.rs fun K hK=>?_
   simp only [↓EJ,FY,simprocAttr,eg,wg]
   refine hK _ ?_;clear hK K
   refine WC.rs fun K hK=>?_
   simp only [↓EJ,FY,simprocAttr,hwn1,f1,t1,lb,w1,er,wr,List.length_map,nl]
   repeat refine And.intro (by omega) ?_
   refine hK _ (Aa [0,1,2,6,7,9,10,11,12,13,14,15,16,17,18,81,93,96,102,127,140,145,159] ?_);clear hK K
   refine WC.go ?_
   refine WC.cond rfl (fun h=>?_) fun h=>?_
   ·have hB:B≤r + tp':=by simp at h;rw [Bv];omega
    refine WC.exit ?_
    simp only [EQ,reduceIte,Nat.reduceEqDiff]
    obtain ⟨y1,y2,y3⟩:=E.done L2 (.inr ⟨hB,by omega⟩)
    refine ⟨g - 1,[],⟨y1,y2,y3⟩,?_⟩
    exact Conv.all (by simp only [EC,simprocAttr,Ab _ _])
   ·have hB:r + tp' < B:=by simp at h;rw [Bv];omega
    refine WC.skip ?_
    try simp only [EQ,simprocAttr]
    refine ⟨(g - 1,r + tp'),[],⟨L2,hB⟩,by dsimp only;omega,?_⟩
    exact Conv.all (by simp only [EC,simprocAttr,Ab _ _])
  ·have hc:¬ (B≤g∨r * B + uu < g * sc):=by simpa using h
   refine WC.exit ?_
   simp only [EQ,reduceIte,Nat.reduceEqDiff]
   try simp only [EQ,simprocAttr]
   obtain ⟨y1,y2,y3⟩:=E.done g1 (.inl ⟨by omega,by omega⟩)
   refine ⟨g,[],⟨y1,y2,y3⟩,?_⟩
   exact Conv.all (by simp only [EC,simprocAttr,Ab _ _])
 rintro g ⟨g1,g2,g3⟩
 refine WC.go ?_
 have v0:∀ i,v.length≤i→v.getD i 0=0:=fun i hi=>by rw [List.getD_eq_getElem?_getD,List.getElem?_eq_none hi];rfl
 refine Bt (X:=List Nat × Nat) (fun z=>z.1.length=w.length∧lim z.1∧z.1.take j=w.take j∧z.1.drop (j + (n + 1))=w.drop (j + (n + 1))∧seg z.1 j (n + 1) + g * Ai v=U + z.2 * B ^ (n + 1)∧z.2≤1)
  (fun z=>⟨[(11,.int .u64 z.2),(9,.int .u64 g),(7,.int .i64 n),(0,.ref (.o 0) 0 w.length),(1,.slc (v.map lb)),(2,.int .i64 j)],[.row (z.1.map lb) 1 151],[],[]⟩) ?_ ?_
 ·refine WC.go ?_
  refine WC.b1 ?_
  refine WC.loop (X:=Nat × List Nat × Nat × Nat) (fun z=>⟨[(13,.int .i64 z.1),(12,.int .u64 z.2.2.1),(11,.int .u64 z.2.2.2),(9,.int .u64 g),(7,.int .i64 n),(0,.ref (.o 0) 0 w.length),(1,.slc (v.map lb)),(2,.int .i64 j)],[.row (z.2.1.map lb) 1 151],[],[]⟩)
   (fun z=>z.1≤n + 1∧z.2.1.length=w.length∧lim z.2.1∧z.2.1.take j=w.take j∧z.2.1.drop (j + z.1)=w.drop (j + z.1)∧seg z.2.1 j z.1 + g * Ai (v.take z.1)=seg w j z.1 + (z.2.2.1 + z.2.2.2) * B ^ z.1∧z.2.2.1 < B∧z.2.2.2≤1∧(n < z.1→z.2.2.1=0)) (fun z=>n + 1 - z.1) (0,w,0,0) []
   ⟨Nat.zero_le _,rfl,hw,rfl,rfl,by simp [Nk,Ai],Bz,Nat.zero_le _,fun h=>rfl⟩ ?_ ?_
  ·exact Conv.all (by simp only [EC,simprocAttr,Ab _ _,Int.cast_ofNat_Int])
  rintro ⟨i,w',c,bo⟩ ⟨s1,s2,s3,s4,s5,s6,s7,s8,s9⟩
  dsimp only at s1 s2 s3 s4 s5 s6 s7 s8 s9 ⊢
  refine Am fun K4 hK4=>?_
  refine WC.go ?_
  refine WC.cond rfl (fun h=>?_) fun h=>?_
  ·have hlt:i≤n:=by simpa using h
   refine WC.skip (hK4 _ ?_)
   refine WC.bs fun K5 hK5=>?_
   refine WC.go ?_
   have hdB:=Be hv i
   have hts:=Aq v i
   have hgv:i < n→gi (v.map lb) i=lb (v.getD i 0):=fun h=>Df (by omega)
   have hv0:¬ i < n→v.getD i 0=0:=fun h=>v0 i (by omega)
   generalize v.getD i 0=d at *
   have hui:=Be s3 (j + i)
   have huw:=Du s5
   have hss:=Ii w j i
   rw [←huw] at hss
   generalize hui':w'.getD (j + i) 0=ui at *
   obtain ⟨m1,m2,_,_⟩:=Zw hui g3 hdB s7 s8
   have wd:=At (Nat.lt_trans hdB (by decide))
   have wgd:IntKind.wrap .u64 ((g:Int) * (d:Int))=((g * d:Nat):Int):=by
    rw [←Int.natCast_mul];exact At (by rw [Bv] at m1;omega)
   have wcg:IntKind.wrap .u64 ((c:Int) + ((g * d:Nat):Int))=((c + g * d:Nat):Int):=by
    rw [←Int.natCast_add];exact At (by rw [Bv] at m1;omega)
   have hc0:¬ i < n→c + g * d=c:=fun h=>by rw [hv0 h,Nat.mul_zero,Nat.add_zero]
   generalize hp:c + g * d=p at *
   refine Bt (X:=Unit) (fun _=>True) (fun _=>⟨[(14,.int .u64 p),(13,.int .i64 i),(12,.int .u64 c),(11,.int .u64 bo),(9,.int .u64 g),(7,.int .i64 n),(0,.ref (.o 0) 0 w.length),(1,.slc (v.map lb)),(2,.int .i64 j)],[.row (w'.map lb) 1 151],[],[]⟩) ?_ ?_
   ·refine WC.go (Aa [0,1,2,6,7,9,10,11,12,13,14,15,16,17,18,81,96,102,127,140,145,159] ?_)
    refine WC.cond rfl (fun h=>?_) fun h=>?_
    ·have hin:i < n:=by simpa using h
     refine WC.r1 ?_
     simp only [↓EJ,FY,simprocAttr,hgv hin,lb,wd,wgd,wcg,Int.toNat_natCast,List.length_map,nl]
     repeat refine And.intro (by omega) ?_
     try simp only [EQ,simprocAttr]
     first | refine ⟨(),[],trivial,?_⟩ | refine ⟨(),[],?_⟩
     exact Conv.all (by simp only [EC,simprocAttr,Ab _ _])
    ·have hin:¬ i < n:=by simpa using h
     refine WC.skip ?_
     try simp only [EQ,simprocAttr]
     first | refine ⟨(),[],trivial,?_⟩ | refine ⟨(),[],?_⟩
     rw [hc0 hin]
     exact Conv.all (by simp only [EC,simprocAttr,Ab _ _])
   rintro ⟨⟩ _
   have e32:(p:Int) / 4294967296=((p / B:Nat):Int):=by rw [Bv];omega
   have wp:=At (Nat.lt_trans m2 (by decide))
   have hpm:=Nat.mod_lt p Bz
   have hand:=and32 (c:=p) (by rw [Bv] at m1;omega)
   have wdd:IntKind.wrap .u64 (((p % B:Nat):Int) + (bo:Int))=((p % B + bo:Nat):Int):=by
    rw [←Int.natCast_add];exact At (by rw [Bv] at *;omega)
   obtain ⟨x',bo',l1,l2,l3,l4,l5,l6⟩:=rlimb_sub ui (p % B + bo) hui (by omega)
   refine WC.rs fun K hK=>?_
   simp only [↓EJ,FY,simprocAttr,Dd,e32,wp]
   refine hK _ ?_;clear hK K
   refine WC.rs fun K hK=>?_
   simp only [↓EJ,FY,simprocAttr,hand,wdd]
   refine hK _ (Aa [0,1,2,6,7,9,10,11,12,13,14,15,16,17,18,81,96,102,127,140,145,159] ?_);clear hK K
   have zi:((j:Int) + (i:Int)).toNat=j + i:=by omega
   have hwi:=w64 (x:=(j:Int) + (i:Int)) (by omega) (by omega)
   have x1:(w'.map lb)[j + i]? = some (lb ui):=by rw [←hui'];exact Cc (by omega)
   have wui:=At (Nat.lt_trans hui (by decide))
   refine WC.rs fun K hK=>?_
   simp only [↓EJ,FY,simprocAttr,hwi,zi,x1,lb,wui]
   repeat refine And.intro (by omega) ?_
   refine hK _ (Aa [0,1,2,6,7,9,10,11,12,13,14,15,16,17,18,81,96,102,127,140,145,159] ?_);clear hK K
   refine WC.go ?_
   generalize hdd:p % B + bo=dd at *
   refine Bt (X:=Unit) (fun _=>True) (fun _=>⟨[(16,.int .u64 ((x' + dd:Nat):Int)),(15,.int .u64 dd),(13,.int .i64 i),(12,.int .u64 (p / B:Nat)),(11,.int .u64 bo'),(9,.int .u64 g),(7,.int .i64 n),(0,.ref (.o 0) 0 w.length),(1,.slc (v.map lb)),(2,.int .i64 j)],[.row (w'.map lb) 1 151],[],[]⟩) ?_ ?_
   ·refine WC.go ?_
    refine WC.cond rfl (fun h=>?_) fun h=>?_
    ·have hlt2:ui < dd:=by simpa using h
     have hb1:bo'=1:=l4.2 hlt2
     have wsum:IntKind.wrap .u64 ((ui:Int) + 4294967296)=((x' + dd:Nat):Int):=by
      rw [show (ui:Int) + 4294967296=((x' + dd:Nat):Int) by rw [l3,hb1,Bv];omega];exact At (by rw [Bv] at *;omega)
     refine WC.rs fun K hK=>?_
     simp only [↓EJ,FY,simprocAttr,wsum]
     refine hK _ ?_;clear hK K
     refine WC.r1 ?_
     simp only [↓EJ,FY,simprocAttr]
     try simp only [EQ,simprocAttr]
     first | refine ⟨(),[],trivial,?_⟩ | refine ⟨(),[],?_⟩
     rw [hb1]
     exact Conv.all (by simp only [EC,simprocAttr,Ab _ _,Int.cast_ofNat_Int])
    ·have hlt2:¬ ui < dd:=by simpa using h
     have hb0:bo'=0:=by
      rcases Nat.le_one_iff_eq_zero_or_eq_one.1 l2 with h | h
      ·exact h
      ·exact absurd (l4.1 h) hlt2
     have hx2:x' + dd=ui:=by rw [l3,hb0,Nat.mul_zero,Nat.add_zero]
     refine WC.skip ?_
     try simp only [EQ,simprocAttr]
     first | refine ⟨(),[],trivial,?_⟩ | refine ⟨(),[],?_⟩
     rw [hx2,hb0]
     exact Conv.all (by simp only [EC,simprocAttr,Ab _ _,Int.cast_ofNat_Int])
   rintro ⟨⟩ _
   have wx:IntKind.wrap .u64 (((x' + dd:Nat):Int) - (dd:Int))=(x':Int):=by
    rw [show ((x' + dd:Nat):Int) - (dd:Int)=(x':Int) by omega];exact At (Nat.lt_trans l1 (by decide))
   have wx2:=Ff l1
   refine WC.r1 ?_
   simp only [↓EJ,FY,simprocAttr,hwi,zi,x1,lb,wx,wx2,List.length_map]
   repeat refine And.intro (by omega) ?_
   refine hK5 _ ?_
   rw [Cn]
   refine WC.r1 ?_
   simp (disch:=omega) only [↓EJ,FY,simprocAttr,w64,Bh]
   try simp only [EQ,simprocAttr]
   refine ⟨(i + 1,w'.set (j + i) x',p / B,bo'),[],⟨by dsimp only;omega,by dsimp only;simp [s2],Cr s3 _ l1,?_,?_,?_,m2,l2,fun hi=>?_⟩,by dsimp only;omega,?_⟩
   ·dsimp only;rw [Cl (by omega),s4]
   ·dsimp only;rw [Dw (by omega),← Nat.add_assoc,← List.drop_drop,s5,List.drop_drop]
   ·dsimp only
    rw [Lx (by omega),hts,hss,Nat.pow_succ]
    refine Ol s6 ?_
    have hmd:=Nat.mod_add_div p B
    rw [Nat.mul_add]
    omega
   ·have h1:=hc0 (by dsimp only at hi;omega)
    dsimp only
    rw [h1]
    exact Nat.div_eq_of_lt s7
   ·exact Conv.all (by simp only [EC,simprocAttr,Int.natCast_add,Ab _ _])
  ·have hge:i=n + 1:=by simp at h;omega
   subst hge
   have hc:=s9 (by omega)
   refine WC.exit ?_
   simp only [EQ,reduceIte,Nat.reduceEqDiff]
   try simp only [EQ,simprocAttr]
   rw [A5 (by omega),hc,Nat.zero_add,hU] at s6
   refine ⟨(w',bo),[],⟨s2,s3,s4,s5,s6,s8⟩,?_⟩
   exact Conv.all (by simp only [EC,simprocAttr,Ab _ _])
 rintro ⟨y2,bo⟩ ⟨k1,k2,k3,k4,k5,k6⟩
 dsimp only at k1 k2 k3 k4 k5 k6 ⊢
 obtain ⟨n0,n1⟩:=Zx hV0 g1 g2 (Uh k2 j (n + 1)) hVB k5
 have hcl:∀ z:List Nat,∀ k∈[Blk.row (z.map lb) 1 151],D8 k:=fun z k hk=>by
  simp only [List.mem_singleton] at hk;subst hk;intro f;simp only [Cu,Ab z f]
 refine Am fun K6 hK6=>?_
 refine WC.go (Aa [0,1,2,6,7,9,10,11,12,13,14,15,16,17,18,81,140,145,159] ?_)
 refine WC.cond rfl (fun h=>?_) fun h=>?_
 ·obtain ⟨m1,m2⟩:=n0 (by simp at h;omega)
  have wg:=Ff g3
  refine WC.rs fun K hK=>?_
  simp only [↓EJ,FY,simprocAttr,wg]
  refine hK _ ?_;clear hK K
  refine WC.ret ?_
  simp only [↓EJ,FY,simprocAttr,EQ,EF,Tryz.results154]
  refine EndsIn.plain (fun _=>rfl) (hcl y2) ⟨y2,⟨k1,k2,k3,k4,m2⟩,?_,rfl⟩
  rw [m1];rfl
 obtain ⟨m1,m2⟩:=n1 (by simp at h;omega)
 refine WC.skip (hK6 _ ?_)
 refine WC.go ?_
 refine Bt (X:=List Nat × Nat) (fun z=>z.1.length=w.length∧lim z.1∧z.1.take j=w.take j∧z.1.drop (j + (n + 1))=w.drop (j + (n + 1))∧seg z.1 j (n + 1) + z.2 * B ^ (n + 1)=seg y2 j (n + 1) + Ai v∧z.2≤1)
  (fun z=>⟨[(9,.int .u64 g)],[.row (z.1.map lb) 1 151],[],[]⟩) ?_ ?_
 ·refine WC.go ?_
  refine WC.b1 ?_
  refine WC.loop (X:=Nat × List Nat × Nat) (fun z=>⟨[(17,.int .i64 z.1),(12,.int .u64 z.2.2),(9,.int .u64 g),(7,.int .i64 n),(0,.ref (.o 0) 0 w.length),(1,.slc (v.map lb)),(2,.int .i64 j)],[.row (z.2.1.map lb) 1 151],[],[]⟩)
   (fun z=>z.1≤n + 1∧z.2.1.length=w.length∧lim z.2.1∧z.2.1.take j=w.take j∧z.2.1.drop (j + z.1)=y2.drop (j + z.1)∧seg z.2.1 j z.1 + z.2.2 * B ^ z.1=seg y2 j z.1 + Ai (v.take z.1)∧z.2.2≤1) (fun z=>n + 1 - z.1) (0,y2,0) []
   ⟨Nat.zero_le _,k1,k2,k3,rfl,by simp [Nk,Ai],Nat.zero_le _⟩ ?_ ?_
  ·exact Conv.all (by simp only [EC,simprocAttr,Ab _ _,Int.cast_ofNat_Int])
  rintro ⟨i,w3,cc⟩ ⟨p1,p2,p3,p4,p5,p6,p7⟩
  dsimp only at p1 p2 p3 p4 p5 p6 p7 ⊢
  refine Am fun K4 hK4=>?_
  refine WC.go ?_
  refine WC.cond rfl (fun h=>?_) fun h=>?_
  ·have hlt:i≤n:=by simpa using h
   refine WC.skip (hK4 _ ?_)
   refine WC.bs fun K5 hK5=>?_
   have hdB:=Be hv i
   have hts:=Aq v i
   have hgv:i < n→gi (v.map lb) i=lb (v.getD i 0):=fun h=>Df (by omega)
   have hv0:¬ i < n→v.getD i 0=0:=fun h=>v0 i (by omega)
   generalize v.getD i 0=d at *
   have hwi3:=Be p3 (j + i)
   have huw3:=Du p5
   have hs3:=Ii y2 j i
   rw [←huw3] at hs3
   have x2:(w3.map lb)[j + i]? = some (lb (w3.getD (j + i) 0)):=Cc (by omega)
   generalize hwi3':w3.getD (j + i) 0=wi at *
   have zi:((j:Int) + (i:Int)).toNat=j + i:=by omega
   have hwi:=w64 (x:=(j:Int) + (i:Int)) (by omega) (by omega)
   have wui':=At (Nat.lt_trans hwi3 (by decide))
   have wd:=At (Nat.lt_trans hdB (by decide))
   have wa:IntKind.wrap .u64 ((wi:Int) + (cc:Int))=((wi + cc:Nat):Int):=by
    rw [←Int.natCast_add];exact At (by rw [Bv] at *;omega)
   have wb:IntKind.wrap .u64 (((wi + cc:Nat):Int) + (d:Int))=((wi + cc + d:Nat):Int):=by
    rw [←Int.natCast_add];exact At (by rw [Bv] at *;omega)
   refine WC.rs fun K hK=>?_
   simp only [↓EJ,FY,simprocAttr,hwi,zi,x2,lb,wui',wa,List.length_map]
   repeat refine And.intro (by omega) ?_
   refine hK _ (Aa [0,1,2,6,7,9,10,11,12,13,14,15,16,17,18,81,145,159] ?_);clear hK K
   have hd0:¬ i < n→wi + cc + d=wi + cc:=fun h=>by rw [hv0 h,Nat.add_zero]
   generalize hp:wi + cc + d=p at *
   refine Bt (X:=Unit) (fun _=>True) (fun _=>⟨[(18,.int .u64 p),(17,.int .i64 i),(9,.int .u64 g),(7,.int .i64 n),(0,.ref (.o 0) 0 w.length),(1,.slc (v.map lb)),(2,.int .i64 j)],[.row (w3.map lb) 1 151],[],[]⟩) ?_ ?_
   ·refine WC.go ?_
    refine WC.cond rfl (fun h=>?_) fun h=>?_
    ·have hin:i < n:=by simpa using h
     refine WC.r1 ?_
     simp only [↓EJ,FY,simprocAttr,hgv hin,lb,wd,wb,Int.toNat_natCast,List.length_map,nl]
     repeat refine And.intro (by omega) ?_
     try simp only [EQ,simprocAttr]
     first | refine ⟨(),[],trivial,?_⟩ | refine ⟨(),[],?_⟩
     exact Conv.all (by simp only [EC,simprocAttr,Ab _ _])
    ·have hin:¬ i < n:=by simpa using h
     refine WC.skip ?_
     try simp only [EQ,simprocAttr]
     first | refine ⟨(),[],trivial,?_⟩ | refine ⟨(),[],?_⟩
     rw [hd0 hin]
     exact Conv.all (by simp only [EC,simprocAttr,Ab _ _])
   rintro ⟨⟩ _
   have hpB:p < 2 * B:=by omega
   have e31:(p:Int) % 4294967296=((p % B:Nat):Int):=by rw [Bv];omega
   have e32:(p:Int) / 4294967296=((p / B:Nat):Int):=by rw [Bv];omega
   have wp:=At (n:=p / B) (by rw [Bv] at hpB ⊢;omega)
   refine WC.rs fun K hK=>?_
   simp only [↓EJ,FY,simprocAttr,List.length_map,hwi,zi,x2,lb,Iv,e31]
   repeat refine And.intro (by omega) ?_
   refine hK _ (Aa [0,1,2,6,7,9,10,11,12,13,14,15,16,17,18,81,145,159] ?_);clear hK K
   rw [Cn]
   refine WC.r1 ?_
   simp only [↓EJ,FY,simprocAttr,Dd,e32,wp]
   refine hK5 _ ?_
   refine WC.r1 ?_
   simp (disch:=omega) only [↓EJ,FY,simprocAttr,w64,Bh]
   try simp only [EQ,simprocAttr]
   refine ⟨(i + 1,w3.set (j + i) (p % B),p / B),[],⟨by dsimp only;omega,by dsimp only;simp [p2],Cr p3 _ (Nat.mod_lt _ Bz),?_,?_,?_,?_⟩,by dsimp only;omega,?_⟩
   ·dsimp only;rw [Cl (by omega),p4]
   ·dsimp only;rw [Dw (by omega),← Nat.add_assoc,← List.drop_drop,p5,List.drop_drop]
   ·dsimp only
    rw [Lx (by omega),hts,hs3,Nat.pow_succ]
    refine M6 p6 ?_
    have hmd:=Nat.mod_add_div p B
    omega
   ·dsimp only;rw [Bv] at hpB ⊢;omega
   ·exact Conv.all (by simp only [EC,simprocAttr,Int.natCast_add,Ab _ _])
  ·have hge:i=n + 1:=by simp at h;omega
   subst hge
   refine WC.exit ?_
   simp only [EQ,reduceIte,Nat.reduceEqDiff]
   try simp only [EQ,simprocAttr]
   rw [A5 (by omega)] at p6
   refine ⟨(w3,cc),[],⟨p2,p3,p4,by rw [p5,k4],p6,p7⟩,?_⟩
   exact Conv.all (by simp only [EC,simprocAttr,Ab _ _])
 rintro ⟨w3,cc⟩ ⟨p2,p3,p4,p5,p6,p7⟩
 dsimp only at p2 p3 p4 p5 p6 p7 ⊢
 have hs:seg w3 j (n + 1)=U % Ai v:=by
  have h1:=Uh p3 j (n + 1)
  have h2:cc=1:=by
   rcases Nat.le_one_iff_eq_zero_or_eq_one.1 p7 with h | h
   ·rw [h,Nat.zero_mul,Nat.add_zero,m2] at p6;omega
   ·exact h
  rw [h2,Nat.one_mul,m2] at p6
  omega
 have eg:(g:Int) - 1=((U / Ai v:Nat):Int):=by omega
 have wg:=At (n:=U / Ai v) (by rw [Bv] at g3;omega)
 have wg2:=Ff (n:=U / Ai v) (by omega)
 refine WC.rs fun K hK=>?_
 simp only [↓EJ,FY,simprocAttr,eg,wg,wg2]
 refine hK _ ?_;clear hK K
 refine WC.ret ?_
 simp only [↓EJ,FY,simprocAttr,EQ,EF,Tryz.results154]
 exact EndsIn.plain (fun _=>rfl) (hcl w3) ⟨w3,⟨p2,p3,p4,p5,hs⟩,rfl,rfl⟩
end Go.LexSem
-- TIGHT
set_option maxHeartbeats 16000000
set_option maxRecDepth 8000
namespace Go.LexSem
open Go Go.V Go.Proofs Go.Num

theorem Um (l:List Nat) (hl:lim l) (hn:l.length≤1000000):FSem C 130 [.ref (.o 0) 0 l.length] [.row (l.map lb) 1 151] fun r st=>r=.ret (A8 (Ai l))∧st=[.row (l.map lb) 1 151]:=by
 have hcl:∀ k∈[Blk.row (l.map lb) 1 151],D8 k:=fun k hk=>by
  simp only [List.mem_singleton] at hk;subst hk;intro f;simp only [Cu,Ab l f]
 refine FSem.en 22 Tryz.func130 ?_
 simp only [Aj]
 refine WC.go ?_
 refine WC.go ?_
 refine WC.bs fun K0 hK0=>?_
 refine WC.loop (X:=Nat) (fun k=>⟨[(3,.int .i64 k),(0,.ref (.o 0) 0 l.length)],[.row (l.map lb) 1 151],[],[]⟩) (fun k=>k≤l.length∧∀ j,k≤j→l.getD j 0=0) (fun k=>k) l.length [] ⟨Nat.le_refl _,fun j hj=>by simp [List.getD_eq_getElem?_getD,List.getElem?_eq_none hj]⟩ ?_ ?_
 ·exact Conv.all (by simp only [EC,simprocAttr,Ab l _])
 ·rintro k ⟨h1,h2⟩
  refine Am fun K3 hK3=>?_
  by_cases hk:k=0
  ·subst hk
   refine WC.go (Aa [0,2,3,15] ?_)
   refine WC.cond rfl (fun h=>?_) fun h=>?_
   ·cases h
   refine WC.exit (hK0 _ ?_)
   have ht:=H0 hl h1 h2 (.inl rfl)
   have hz:Ai l=0:=toL_eq_nil.1 (by rw [←ht,List.take_zero])
   refine WC.rs fun K hK=>?_
   simp only [↓EJ,FY,simprocAttr,List.length_map,List.take_zero]
   try refine ⟨by omega,?_⟩
   refine hK _ ?_;clear hK K
   refine WC.ret ?_
   simp only [↓EJ,FY,simprocAttr,EQ,EF,Tryz.results130]
   exact EndsIn.plain (fun _=>rfl) hcl ⟨by rw [hz];rfl,rfl⟩
  ·have hg:(l.map lb)[k - 1]? = some (lb (l.getD (k - 1) 0)):=Cc (by omega)
   have hw:IntKind.wrap .i64 ((k:Int) - 1)=((k - 1:Nat):Int):=by rw [w64 (by omega) (by omega)];omega
   have hk0:((0:Int) < (k:Int))=True:=eq_true (by omega)
   have hk1:(((k - 1:Nat):Int) < (l.length:Int)):=by omega
   by_cases hz:l.getD (k - 1) 0=0
   ·refine WC.rs fun K hK=>?_
    simp only [↓EJ,FY,simprocAttr,hk0,hw,hg,lb,hz,Int.toNat_natCast,List.length_map]
    repeat refine And.intro (by omega) ?_
    refine hK _ (Aa [0,2,3,15] ?_);clear hK K
    refine WC.cond rfl (fun h=>?_) fun h=>?_
    rotate_left
    ·simp at h
    refine WC.skip (hK3 _ ?_)
    refine WC.b1 ?_
    refine WC.r1 ?_
    simp only [↓EJ,FY,simprocAttr,hw]
    try simp only [EQ,simprocAttr]
    refine ⟨k - 1,[],⟨by omega,fun j hj=>?_⟩,by omega,?_⟩
    ·rcases Nat.lt_or_ge j k with h' | h'
     ·rw [show j=k - 1 by omega];exact hz
     ·exact h2 j h'
    ·exact Conv.all (by simp only [EC,simprocAttr,Ab l _])
   ·have e0:(((l.getD (k - 1) 0:Nat):Int)=0)=False:=eq_false (by omega)
    refine WC.rs fun K hK=>?_
    simp only [↓EJ,FY,simprocAttr,hk0,hw,hg,lb,e0,Int.toNat_natCast,List.length_map]
    repeat refine And.intro (by omega) ?_
    refine hK _ (Aa [0,2,3,15] ?_);clear hK K
    refine WC.cond rfl (fun h=>?_) fun h=>?_
    ·simp at h
    refine WC.exit (hK0 _ ?_)
    have ht:=H0 hl h1 h2 (.inr hz)
    have hlen:(l.take k).length=k:=by rw [List.length_take];omega
    have hn0:Ai l≠0:=fun e=>by rw [e,Cq] at ht;rw [ht] at hlen;simp at hlen;omega
    obtain ⟨x,xs,hxs⟩:∃ x xs,l.take k=x::xs:=by
     cases hc:l.take k with
     | nil=>rw [hc] at hlen;simp at hlen;omega
     | cons x xs=>exact ⟨x,xs,rfl⟩
    have hm:List.take k (l.map lb)=lb x::xs.map lb:=by rw [←List.map_take,hxs];rfl
    have hxl:xs.length + 1=k:=by rw [hxs] at hlen;exact hlen
    have hkt:(k≤l.length)=True:=eq_true h1
    refine WC.rs fun K hK=>?_
    simp only [↓EJ,FY,simprocAttr,List.length_map,Int.toNat_natCast,List.drop_zero,hm,hkt,decide_true]
    refine ⟨by omega,by omega,by omega,⟨rfl,Ot⟩,by omega,by omega,?_⟩
    refine hK _ ?_;clear hK K
    refine WC.frz 2 0 rfl rfl (by simp) ?_
    refine WC.ret ?_
    simp only [↓EJ,FY,simprocAttr,EQ,EF,Tryz.results130]
    have hq:PVal.slc (lb x::List.take xs.length (List.map lb xs))=A8 (Ai l):=by
     rw [Il hn0,← ht,hxs,lbs,List.map_cons]
     simp [List.take_of_length_le]
    rw [hq]
    exact EndsIn.plain (of_eq_true (Av _)) hcl ⟨rfl,rfl⟩
theorem shlN32 {x k:Nat} (hk:k≤31):(x:Int) * 2 ^ min k IntKind.u32.bits=((x * 2 ^ k:Nat):Int):=by
 rw [show min k IntKind.u32.bits=k by simp [IntKind.bits];omega];simp
theorem Ns (f:Ref→Ref) (n:Nat):ren f (A8 n)=A8 n:=of_eq_true (Av n) f
/-- A call that is handed one block of limbs, which it changes. -/
theorem Zo {g:FuncId} {args args':List PVal} {σ:St} {K KP:PVal→St→Prop} {p:Ref} {b:Blk} {v:PVal} {o len:Nat} {P:List Nat→Prop} (spec:FSem C g (.ref (.o 0) o len::args) [b] fun r st=>∃ z,P z∧r=.ret v∧st=[.row (z.map lb) 1 151])
  (hb:Ao σ.o σ.l p=some b) (ha:args'=.ref p o len::args) (hca:ClosedL args) (hcb:D8 b) (hcv:Closed v) (hok:∀ z,P z→K v (A1 σ p (.row (z.map lb) 1 151))):CallW C g args' σ K KP :=
 CallW.of spec [p] (by simp) (by rw [ha];simp only [Ba,ren,hca _,A4,List.getD_cons_zero]) rfl (fun j r' k hr hk=>by
  cases j with
  | zero=>simp at hr hk;subst hr hk;rw [hcb];exact hb
  | succ j=>simp at hr) fun q st' ⟨z,hz,h1,h2⟩=>by
  subst h1 h2
  have e:∀ b,By σ [p] [b]=A1 σ p b:=fun b=>by simp [By]
  simp only [List.map_cons,List.map_nil,Cu,Ab z _,hcv _,e]
  exact hok z hz
theorem Ld (x y:Nat) (hx:okN x) (hy:okN y) (hy0:y≠0):FSem C 135 [A8 x,A8 y] [] fun r st=>r=.ret (.tuple [A8 (x / y),A8 (x % y),.int .i64 0])∧st=[]:=by
 have hyl:(toL y).length≠0:=fun h=>hy0 (toL_eq_nil.1 (List.length_eq_zero_iff.1 h))
 have tx:=Mt x hx
 have ty:=Mt y hy
 have hc:=rcmp_sem x y hx hy
 rw [Il hy0] at ty hc ⊢
 refine FSem.en 86 Tryz.func135 ?_
 simp only [Aj]
 refine WC.go ?_
 refine WC.rs fun K hK=>?_
 simp only [↓EJ,FY,simprocAttr]
 refine Cm tx ?_
 simp only [↓EJ,FY,simprocAttr]
 refine Bg ty ?_
 simp only [↓EJ,FY,simprocAttr]
 refine hK _ ?_;clear hK K
 refine Am fun K1 hK1=>?_
 refine WC.rs fun K hK=>?_
 simp only [↓EJ,FY,simprocAttr,lbs,List.length_map]
 refine hK _ (Aa [0,1,4,5,6,7,8,9,10,11,12,13,20,24,28,50,71] ?_);clear hK K
 refine WC.cond rfl (fun h=>?_) fun h=>?_
 ·simp at h;exact absurd (List.length_eq_zero_iff.2 h) hyl
 refine WC.skip (hK1 _ ?_)
 refine Am fun K1 hK1=>?_
 refine WC.rs fun K hK=>?_
 simp only [↓EJ,FY,simprocAttr]
 refine Cm hc ?_
 simp only [↓EJ,FY,simprocAttr]
 refine hK _ ?_;clear hK K
 refine WC.cond rfl (fun h=>?_) fun h=>?_
 ·have hlt:x < y:=cmpI_neg.1 (by simpa using h)
  refine WC.go ?_
  refine WC.ret ?_
  simp only [↓EJ,FY,simprocAttr,EQ,EF,Tryz.results135]
  exact An (of_eq_true (by simp only [CL,Av,and_self])) (by rw [Nat.div_eq_of_lt hlt,Nat.mod_eq_of_lt hlt,Uw])
 have hle:y≤x:=by
  rcases Nat.lt_or_ge x y with h' | h'
  ·exact absurd (cmpI_neg.2 h') (by simpa using h)
  ·exact h'
 have hx0:x≠0:=by omega
 refine WC.skip (hK1 _ ?_)
 rw [Il hx0]
 refine Am fun K1 hK1=>?_
 refine WC.go (Aa [0,1,4,5,6,7,8,9,10,11,12,13,28,50,71] ?_)
 refine WC.cond rfl (fun h=>?_) fun h=>?_
 ·have h1:(toL y).length=1:=by simp at h;omega
  have hyB:y < B:=by
   have:=Ck (Bo y)
   rwa [Br,h1,Nat.pow_one] at this
  have hyt:toL y=[y]:=Mq hy0 hyB
  have hm:=Nat.mod_lt x (Nat.pos_of_ne_zero hy0)
  have hmB:=Nat.lt_trans hm hyB
  have hs:=Yj (toL x) y (Bo x) (Nat.le_trans hx (by decide)) (Nat.pos_of_ne_zero hy0) hyB
  rw [Br] at hs
  have htr:=G3 [x % y] (fun z hz=>by simp at hz;subst hz;exact hmB) (by simp)
  rw [show Ai [x % y]=x % y by simp [Ai]] at htr
  refine WC.rs fun K hK=>?_
  simp only [↓EJ,FY,simprocAttr,hyt,List.map_cons,List.map_nil,gi,List.getD_cons_zero,Jr]
  repeat refine And.intro (by omega) ?_
  refine Cm hs ?_
  simp only [↓EJ,FY,simprocAttr]
  refine hK _ (Aa [0,1,4,5,6,7,8,9,10,11,12,13,50,71] ?_);clear hK K
  refine A2 [2] fun K hK=>?_
  simp only [↓EJ,FY,simprocAttr,EZ,lb]
  refine Cm htr ?_
  simp only [↓EJ,FY,simprocAttr,EZ]
  refine hK _ ?_;clear hK K
  refine WC.ret ?_
  simp only [↓EJ,FY,simprocAttr,EQ,EF,Tryz.results135]
  exact An (of_eq_true (by simp only [CL,Av,and_self])) rfl
 have h2:2≤(toL y).length:=by simp at h;omega
 refine WC.skip (hK1 _ ?_)
 refine WC.go ?_
 have htop0:=Ph hy0
 have htopB:=Be (Bo y) ((toL y).length - 1)
 have hgt:gi ((toL y).map lb) ((toL y).length - 1)=lb ((toL y).getD ((toL y).length - 1) 0):=Df (by omega)
 have e1:(((toL y).length:Int) - 1).toNat=(toL y).length - 1:=by omega
 have hnt:∀ k,k≤31→B / 2≤(toL y).getD ((toL y).length - 1) 0 * 2 ^ k→(toL y).getD ((toL y).length - 1) 0 * 2 ^ k < B→(toL (y * 2 ^ k)).length=(toL y).length∧B / 2≤(toL (y * 2 ^ k)).getD ((toL y).length - 1) 0:=fun k h1 h2 h3=>Wy h1 hy0 h2 h3
 generalize (toL y).getD ((toL y).length - 1) 0=tp at *
 have hab:(toL y).length≤(toL x).length:=Nu hle
 have hwn:=w64 (x:=((toL y).length:Int) - 1) (by omega) (by unfold okN at hy;omega)
 refine Bt (X:=Nat) (fun k=>k≤31∧B / 2≤tp * 2 ^ k∧tp * 2 ^ k < B) (fun k=>⟨[(9,.int .i64 k),(1,.slc ((toL y).map lb)),(0,lbs (toL x))],[],[],[]⟩) ?_ ?_
 ·refine WC.b1 ?_
  refine WC.loop (X:=Nat) (fun k=>⟨[(9,.int .i64 k),(1,.slc ((toL y).map lb)),(0,lbs (toL x))],[],[],[]⟩) (fun k=>k≤31∧tp * 2 ^ k < B) (fun k=>31 - k) 0 [] ⟨Nat.zero_le _,by simpa using htopB⟩ ?_ ?_
  ·exact Conv.all (by simp only [EC,simprocAttr,lbs,Ab _ _,Int.cast_ofNat_Int])
  rintro k ⟨k1,k2⟩
  have hwk:=At (n:=k) (by omega)
  obtain ⟨tk,htk⟩:∃ tk,tk=tp * 2 ^ k:=⟨_,rfl⟩
  have shk:(tp:Int) * 2 ^ min k IntKind.u32.bits=(tk:Int):=by rw [shlN32 k1,htk]
  rw [←htk] at k2
  have wsh:=Ff k2
  refine Am fun K3 hK3=>?_
  refine WC.rs fun K hK=>?_
  simp only [↓EJ,FY,simprocAttr,List.length_map,hwn,e1,hgt,lb,hwk,Int.toNat_natCast,shk,wsh]
  repeat refine And.intro (by omega) ?_
  refine hK _ (Aa [0,1,4,5,6,9,10,11,12,13,50,71] ?_);clear hK K
  refine WC.cond rfl (fun h=>?_) fun h=>?_
  ·have hlt:tk < 2147483648:=by simp at h;omega
   have h2k:tp * 2 ^ (k + 1) < B:=by rw [Nat.pow_succ,← Nat.mul_assoc,← htk,Bv];omega
   have hk31:k + 1≤31:=by
    rcases Nat.lt_or_ge k 31 with h' | h'
    ·omega
    ·exfalso
     have:k=31:=by omega
     subst this
     have:1 * 2 ^ 31≤tp * 2 ^ 31:=Nat.mul_le_mul_right _ (by omega)
     rw [←htk] at this
     omega
   refine WC.skip (hK3 _ ?_)
   refine WC.b1 ?_
   refine WC.r1 ?_
   simp (disch:=omega) only [↓EJ,FY,simprocAttr,w64,Bh]
   try simp only [EQ,simprocAttr]
   refine ⟨k + 1,[],⟨hk31,h2k⟩,by omega,?_⟩
   exact Conv.all (by simp only [EC,simprocAttr,Int.natCast_add,lbs,Ab _ _])
  ·have hge:¬ tk < 2147483648:=by simp at h;omega
   refine WC.exit ?_
   simp only [EQ,reduceIte,Nat.reduceEqDiff]
   try simp only [EQ,simprocAttr]
   refine ⟨k,[],⟨k1,by rw [←htk,Bv];omega,by rw [←htk];exact k2⟩,?_⟩
   exact Conv.all (by simp only [EC,simprocAttr,lbs,Ab _ _])
 rintro k ⟨k1,k2,k3⟩
 obtain ⟨nl,nt⟩:=hnt k k1 k2 k3
 clear hnt hgt
 unfold okN at hx hy
 refine WC.rs fun K hK=>?_
 simp only [↓EJ,FY,simprocAttr]
 refine CallX.mk (I9 (Rb (toL x) k (Bo x) (by omega) k1) (by simp only [CL,Al,and_self]) ?_)
 rintro _ _ ⟨u,⟨u1,u2,u3,u4⟩,rfl,rfl⟩
 refine ⟨fun f=>by simp only [Cu,Ab _ f],?_⟩
 simp only [↓EJ,FY,simprocAttr,ren,Ec,List.length_nil,List.getD_cons_zero]
 refine CallX.mk (I9 (Rb (toL y) k (Bo y) (by omega) k1) (by simp only [CL,Ab,and_self]) ?_)
 rintro _ _ ⟨o,⟨o1,o2,o3,o4⟩,rfl,rfl⟩
 refine ⟨fun f=>by simp only [Cu,Ab _ f],?_⟩
 simp only [↓EJ,FY,simprocAttr,ren,Ec,List.length_cons,List.length_nil,List.getD_cons_zero]
 have htr:=Um o o1 (by omega)
 rw [o2,o3,Br,Il (Nat.mul_ne_zero hy0 (Nat.pos_iff_ne_zero.1 (Nat.pow_pos (by decide))))] at htr
 refine CallX.mk (CallW.one (r:=.l 1) htr rfl (fun f=>by simp only [Cu,Ab _ f]) (fun f=>by simp only [Cu,Ab _ f]) (of_eq_true (Al _)) (by simp [Ba,ren,A4]) ?_)
 simp only [↓EJ,FY,simprocAttr]
 refine hK _ (Aa [0,1,4,5,6,9,10,11,12,13,71] ?_);clear hK K
 rw [Br] at u3
 have hv:=Bo (y * 2 ^ k)
 have hvv:=Br (y * 2 ^ k)
 have hxn:y * 2 ^ k≤x * 2 ^ k:=Nat.mul_le_mul_right _ hle
 obtain ⟨d1,d2⟩:=Tr x y k
 have hul:Ai (u.drop (u.length - (toL y).length)) < Ai (toL (y * 2 ^ k)):=by
  refine top_lt (n:=(toL y).length) u1 (by omega) nl (by omega) ?_
  rw [show u.length - (toL y).length + (toL y).length - 1=(toL x).length by omega]
  exact Nat.lt_of_lt_of_le u4 (Nat.le_trans (Gg k1) nt)
 generalize toL (y * 2 ^ k)=v at *
 clear htr o4 o3 o2 o1 htop0 htopB k2 k3
 generalize hla:(toL x).length=la at *
 generalize hnb:(toL y).length=n at *
 obtain ⟨m,hm⟩:∃ m,m=la + 1 - n:=⟨_,rfl⟩
 have wm1:=w64 (x:=(la:Int) - (n:Int)) (by omega) (by omega)
 have wm2:=w64 (x:=(la:Int) - (n:Int) + 1) (by omega) (by omega)
 have em:((la:Int) - (n:Int) + 1).toNat=m:=by omega
 have em2:(la:Int) - (n:Int) + 1=(m:Int):=by omega
 refine WC.rs fun K hK=>?_
 simp only [↓EJ,FY,simprocAttr,lbs,List.length_map,hla,hnb,wm1,wm2,em]
 repeat refine And.intro (by omega) ?_
 refine hK _ (Aa [0,1,4,5,6,9,10,11,12,13,71] ?_);clear hK K
 rw [Hm]
 have hV0:0 < Ai v:=by rw [hvv];exact Nat.mul_pos (by omega) (Nat.pow_pos (by decide))
 have hVB:Ai v < B ^ n:=by rw [←nl];exact Ck hv
 rw [u2,← hm] at hul
 rw [←hvv,← u3] at d1 d2
 refine Bt (X:=List Nat × List Nat) (fun g=>LongInv g.1 g.2 (Ai u) (Ai v) n 0∧g.1.length=la + 1∧g.2.length=m∧lim g.2) (fun g=>⟨[(12,.ref (.l 1) 0 m),(10,.ref (.l 0) 0 (la + 1)),(9,.int .i64 k)],[],[.row (g.1.map lb) 1 151,.row (g.2.map lb) 1 151],[]⟩) ?_ ?_
 ·refine WC.rs fun K hK=>?_
  simp (disch:=omega) only [↓EJ,FY,simprocAttr,w64,Bh]
  repeat refine And.intro (by omega) ?_
  refine hK _ ?_;clear hK K
  refine WC.b1 ?_
  refine WC.loop (X:=Nat × List Nat × List Nat) (fun z=>⟨[(13,.int .i64 ((z.1:Int) - 1)),(12,.ref (.l 1) 0 m),(11,.slc (v.map lb)),(10,.ref (.l 0) 0 (la + 1)),(9,.int .i64 k)],[],[.row (z.2.1.map lb) 1 151,.row (z.2.2.map lb) 1 151],[]⟩)
   (fun z=>LongInv z.2.1 z.2.2 (Ai u) (Ai v) n z.1∧z.2.1.length=la + 1∧z.2.2.length=m∧lim z.2.2∧z.1≤m) (fun z=>z.1) (m,u,List.replicate m 0) [0,2]
   ⟨?_,u2,by simp,F2 _,Nat.le_refl _⟩ ?_ ?_
  ·have:=LongInv.start (u:=u) (q:=List.replicate m 0) (V:=Ai v) (n:=n) u1 (by simp;omega) (by simpa using hul)
   simpa using this
  ·exact Conv.all (by simp only [EC,simprocAttr,Ab _ _])
  rintro ⟨j1,w,q⟩ ⟨h1,h2',h3,h4,h5⟩
  dsimp only at h1 h2' h3 h4 h5 ⊢
  refine Am fun K3 hK3=>?_
  refine WC.go ?_
  refine WC.cond rfl (fun h=>?_) fun h=>?_
  ·obtain ⟨j,rfl⟩:∃ j,j1=j + 1:=⟨j1 - 1,by simp at h;omega⟩
   have ej:(((j + 1:Nat):Int) - 1)=(j:Int):=by omega
   rw [ej]
   refine WC.skip (hK3 _ ?_)
   refine WC.bs fun K4 hK4=>?_
   have hj:j + n < w.length:=by omega
   have E:=W4 h1 hv nl h2 nt hj
   have hdg:=Yt w v j n h1.lu hv nl h2 hj (by omega) E
   rw [h2'] at hdg
   have xq:(q.map lb)[j]? = some (lb (q.getD j 0)):=Cc (by omega)
   have hqB:=E.q_lt
   refine WC.r1 ?_
   simp only [↓EJ,FY,simprocAttr]
   refine CallX.mk (Zo (p:=.l 0) hdg rfl rfl (by simp only [CL,Al,and_self]) (fun f=>by simp only [Cu,Ab _ f]) (fun _=>rfl) fun z hz=>?_)
   simp only [↓EJ,FY,simprocAttr,List.length_map,xq,lb,Int.toNat_natCast]
   repeat refine And.intro (by omega) ?_
   obtain ⟨r1,r2,r3,r4,r5⟩:=hz
   have hst:=h1.step hV0 hVB hj (by omega) r2 r3 r4 (by omega) r5
   refine hK4 _ ?_
   rw [Cn]
   refine WC.r1 ?_
   simp (disch:=omega) only [↓EJ,FY,simprocAttr,w64,Bh]
   try simp only [EQ,simprocAttr]
   refine ⟨(j,z,q.set j (seg w j (n + 1) / Ai v)),[0,1],⟨hst,by dsimp only;omega,by dsimp only;simp [h3],Cr h4 _ hqB,by dsimp only;omega⟩,by dsimp only;omega,?_⟩
   exact Conv.all (by simp only [EC,simprocAttr,Ab _ _])
  ·have hj0:j1=0:=by simp at h;omega
   subst hj0
   refine WC.exit ?_
   simp only [EQ,reduceIte,Nat.reduceEqDiff]
   try simp only [EQ,simprocAttr]
   refine ⟨(w,q),[0,1],⟨h1,h2',h3,h4⟩,?_⟩
   exact Conv.all (by simp only [EC,simprocAttr,Ab _ _])
 rintro ⟨w,q⟩ ⟨h1,h2',h3,h4⟩
 dsimp only at h1 h2' h3 h4 ⊢
 obtain ⟨dq,dr⟩:=h1.done
 rw [d1] at dq
 rw [d2] at dr
 have htq:=G3 q h4 (by omega)
 rw [dq] at htq
 have hus:=Uk w k (x % y) h1.lu (by omega) (by omega) k1 dr
 refine WC.frz 12 1 rfl rfl (by simp [h3]) ?_
 refine WC.frz 10 0 rfl rfl (by simp [h2']) ?_
 have eq1:((q.map lb).drop 0).take m=q.map lb:=by rw [List.drop_zero,List.take_of_length_le (by simp [h3])]
 have eq2:((w.map lb).drop 0).take (la + 1)=w.map lb:=by rw [List.drop_zero,List.take_of_length_le (by simp [h2'])]
 rw [eq1,eq2]
 refine WC.rs fun K hK=>?_
 simp only [↓EJ,FY,simprocAttr]
 refine Cm htq ?_
 simp only [↓EJ,FY,simprocAttr]
 refine Cm hus ?_
 simp only [↓EJ,FY,simprocAttr]
 refine hK _ (Aa [0,1,4,5,6,9,10,11,12,13] ?_);clear hK K
 refine WC.ret ?_
 simp only [↓EJ,FY,simprocAttr,EQ,EF,Tryz.results135]
 exact An (of_eq_true (by simp only [CL,Av,and_self])) rfl
theorem rgcd_sem (x y:Nat) (hx:okN x) (hy:okN y):FSem C 134 [A8 x,A8 y] [] fun r st=>r=.ret (A8 (x.gcd y))∧st=[]:=by
 refine FSem.en 25 Tryz.func134 ?_
 simp only [Aj]
 refine WC.go ?_
 refine WC.rs fun K hK=>?_
 simp only [↓EJ,FY,simprocAttr]
 refine Cm (Mt x hx) ?_
 simp only [↓EJ,FY,simprocAttr]
 refine Cm (Mt y hy) ?_
 simp only [↓EJ,FY,simprocAttr]
 refine hK _ ?_;clear hK K
 refine WC.bs fun K0 hK0=>?_
 refine WC.loop (X:=Nat × Nat) (fun z=>⟨[(1,A8 z.2),(0,A8 z.1)],[],[],[]⟩) (fun z=>z.1.gcd z.2=x.gcd y∧okN z.1∧okN z.2) (fun z=>z.2) (x,y) [] ⟨rfl,hx,hy⟩ ?_ ?_
 ·exact Conv.all (by simp only [EC,simprocAttr,Ns])
 rintro ⟨a,b⟩ ⟨h1,h2,h3⟩
 dsimp only at h1 h2 h3 ⊢
 refine Am fun K3 hK3=>?_
 by_cases hb0:b=0
 ·subst hb0
  rw [Uw]
  refine WC.go (Aa [0,1,4,6,14] ?_)
  refine WC.cond rfl (fun h=>?_) fun h=>?_
  ·cases h
  refine WC.exit (hK0 _ ?_)
  refine WC.go ?_
  refine WC.ret ?_
  simp only [↓EJ,FY,simprocAttr,EQ,EF,Tryz.results134]
  exact An (of_eq_true (Av _)) (by rw [←h1,Nat.gcd_zero_right])
 ·have hdm:=Ld a b h2 h3 hb0
  have hbl:(toL b).length≠0:=fun h=>hb0 (toL_eq_nil.1 (List.length_eq_zero_iff.1 h))
  rw [Il hb0] at hdm
  rw [Il hb0]
  refine WC.rs fun K hK=>?_
  simp only [↓EJ,FY,simprocAttr,lbs,List.length_map]
  refine hK _ ?_;clear hK K
  refine WC.cond rfl (fun h=>?_) fun h=>?_
  rotate_left
  ·simp at h;exact absurd (by simp [h]) hbl
  refine WC.skip (hK3 _ ?_)
  refine WC.b1 ?_
  refine WC.rs fun K hK=>?_
  simp only [↓EJ,FY,simprocAttr]
  refine Cm hdm ?_
  simp only [↓EJ,FY,simprocAttr]
  refine hK _ (Aa [0,1,4,6,14] ?_);clear hK K
  refine WC.r1 ?_
  simp only [↓EJ,FY,simprocAttr]
  try simp only [EQ,simprocAttr]
  refine ⟨(b,a % b),[],⟨by rw [←h1,Nat.gcd_comm a b,Nat.gcd_rec b a,Nat.gcd_comm],h3,Uv (Nat.mod_le _ _) h2⟩,Nat.mod_lt _ (Nat.pos_of_ne_zero hb0),?_⟩
  dsimp only
  rw [Il hb0]
  exact Conv.all (by simp only [EC,simprocAttr,Ns,lbs,Ab _ _])
end Go.LexSem
