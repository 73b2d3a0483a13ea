/-
 Texts joined: NumI NumJ NumK.
-/
import Derived.Test.YtenieameoojbjaaGreatDoorUMG
import Derived.Test.YtenieameoojbjaaGreatDoorUMD
set_option linter.unusedVariables false
set_option linter.unusedSimpArgs false
set_option linter.loopingSimpArgs false
set_option maxHeartbeats 4000000
set_option maxRecDepth 8000
namespace Go.LexSem
open Go Go.V Go.Proofs Go.Num

/-- A whole number of 64 bits without a sign. -/
def u64v (n:Nat):PVal:=.int .u64 n
theorem u64v_closed (n:Nat):Closed (u64v n)=True:=eq_true (fun _=>rfl)

theorem shrN {f k:Nat} (hk:k≤31):((f:Int)).fdiv (2 ^ min k IntKind.u64.bits)=((f / 2 ^ k:Nat):Int):=by
 rw [show min k IntKind.u64.bits=k by simp [IntKind.bits];omega,Int.fdiv_eq_ediv_of_nonneg _ (Int.pow_nonneg (by decide))]
 simp
/-- What a shift hands back. -/
def ShiftR (l:List Nat) (k:Nat) (p:PVal) (b:Blk):Prop:=∃ o:List Nat,(lim o∧o.length=l.length + 1∧Ai o=Ai l * 2 ^ k∧o.getD l.length 0 < 2 ^ k)∧p=.ref (.o 0) 0 (l.length + 1)∧b=.row (o.map lb) 1 151
theorem Q9 (l:List Nat) (k:Nat) (hl:lim l) (hn:l.length≤100000) (hk:k≤31) :
  FSem C 218 [lbs l,.int .u64 k] [] fun q st=>∃ p b,ShiftR l k p b∧q=.ret p∧st=[b]:=by
 have h:=shift_sem l k hl hn hk
 refine ⟨h.1,fun V vs hM hv=>(h.2 V vs hM hv).mono fun e w' ⟨V',st',r,h1,h2,h3,h4,h5,o,h6,h7,h8⟩=>⟨V',st',r,h1,h2,h3,h4,h5,_,_,⟨o,h6,rfl,rfl⟩,h7,h8⟩⟩
/-- What a trimmed block hands back. -/
theorem Jw (l:List Nat) (hl:lim l) (hn:l.length≤1000000):FSem C 167 [.ref (.o 0) 0 l.length] [.row (l.map lb) 1 151]
  fun r st=>∃ p,(∃ k,k≤l.length∧l.take k=toL (Ai l)∧p=.ref (.o 0) 0 k)∧r=.ret p∧st=[.row (l.map lb) 1 151]:=by
 have h:=O7 l hl hn
 refine ⟨h.1,fun V vs hM hv=>(h.2 V vs hM hv).mono fun e w' ⟨V',st',r,h1,h2,h3,h4,h5,k,h6,h7,h8,h9⟩=>⟨V',st',r,h1,h2,h3,h4,h5,_,⟨k,h6,h7,rfl⟩,h8,h9⟩⟩
theorem long_sem (x y:Nat) (hyx:y≤x) (h2:2≤(toL y).length) (hn:(toL x).length≤10000) :
  FSem C 211 [lbs (toL x),lbs (toL y)] [] fun r st=>r=.ret (.tuple [lbs (toL (x / y)),lbs (toL (x % y))])∧st=[]:=by
 have hy0:y≠0:=fun h=>by subst h;rw [Cq] at h2;simp at h2
 have hab:(toL y).length≤(toL x).length:=Nu hyx
 have htop0:=Ph hy0
 have htopB:=Be (Bo y) ((toL y).length - 1)
 have hgt:gi ((toL y).map lb) ((toL y).length - 1)=lb ((toL y).getD ((toL y).length - 1) 0):=Df (by omega)
 have e1:(((toL y).length:Int) - 1).toNat=(toL y).length - 1:=by omega
 obtain ⟨k1,k2,k3,_⟩:=Aac htop0 htopB
 have hlz:=lz_sem _ htop0 htopB
 obtain ⟨nl,nt⟩:=Wy k1 hy0 k2 k3
 generalize (toL y).getD ((toL y).length - 1) 0=tp at *
 generalize lz tp=k at *
 have wk:IntKind.wrap .u64 (k:Int)=(k:Int):=At (by omega)
 refine FSem.en 251 Tryz.func211 ?_
 simp only [Aj]
 refine WC.go ?_
 refine WC.rs fun K hK=>?_
 simp (disch:=omega) only [↓EJ,FY,simprocAttr,w64,Bh,lbs,List.length_map,e1,hgt,Jr]
 repeat refine And.intro (by omega) ?_
 refine Bg hlz ?_
 simp only [↓EJ,FY,simprocAttr,wk]
 refine hK _ (Aa [0,1,4,5,6,7,8,9,10,11,12,13,14,15,16,17,18,19,20,21,22,23,24,63,108,116,117,118,119,120,174,177,178,179,180,223,224,225] ?_);clear hK K
 refine WC.rs fun K hK=>?_
 simp only [↓EJ,FY,simprocAttr]
 refine CallX.mk (I9 (Q9 (toL x) k (Bo x) (by omega) k1) (by simp only [CL,Ab,and_self]) ?_)
 rintro _ _ ⟨u,⟨u1,u2,u3,u4⟩,rfl,rfl⟩
 refine ⟨fun f=>by simp only [Cu,Ab _ f],?_⟩
 simp only [↓EJ,FY,simprocAttr,ren,Ec,List.length_nil,List.getD_cons_zero]
 refine CallX.mk (I9 (Q9 (toL y) k (Bo y) (by omega) k1) (by simp only [CL,Ab,and_self]) ?_)
 rintro _ _ ⟨o,⟨o1,o2,o3,o4⟩,rfl,rfl⟩
 refine ⟨fun f=>by simp only [Cu,Ab _ f],?_⟩
 simp only [↓EJ,FY,simprocAttr,ren,Ec,List.length_cons,List.length_nil,List.getD_cons_zero]
 have htr:=Jw o o1 (by omega)
 rw [o2,o3,Br] at htr
 refine CallX.mk (Kc (r:=.l 1) (args':=[.ref (.o 0) 0 ((toL y).length + 1)]) htr rfl (fun f=>by simp only [Cu,Ab _ f]) (by simp [Ba,ren,A4]) ?_)
 rintro _ ⟨kk,kk1,kk2,rfl⟩
 simp only [↓EJ,FY,simprocAttr,ren,Ec,List.length_cons,List.length_nil,List.getD_cons_zero]
 refine hK _ (Aa [0,4,5,6,7,8,9,10,11,12,13,14,15,16,17,18,19,20,21,22,23,24,63,108,116,117,118,119,120,174,177,178,179,180,223,224,225] ?_);clear hK K
 refine WC.frz 8 1 rfl rfl (by simp;omega) ?_
 rw [Br] at u3
 have e5:((o.map lb).drop 0).take kk=(toL (y * 2 ^ k)).map lb:=by rw [List.drop_zero,← List.map_take,kk2]
 rw [e5]
 have hv:=Bo (y * 2 ^ k)
 have hvv:=Br (y * 2 ^ k)
 have hxn:y * 2 ^ k≤x * 2 ^ k:=Nat.mul_le_mul_right _ hyx
 obtain ⟨d1,d2⟩:=Tr x y k
 have hul:Ai (u.drop (u.length - (toL y).length)) < Ai (toL (y * 2 ^ k)):=by
  refine top_lt (n:=(toL y).length) u1 (by omega) nl (by omega) ?_
  rw [show u.length - (toL y).length + (toL y).length - 1=(toL x).length by omega]
  exact Nat.lt_of_lt_of_le u4 (Nat.le_trans (Gg k1) nt)
 generalize toL (y * 2 ^ k)=v at *
 clear hgt htr e5 kk2 o4 o3 o2 o1 hlz htop0 htopB k2 k3
 generalize hla:(toL x).length=la at *
 generalize hnb:(toL y).length=n at *
 clear hnb hla kk1
 refine WC.rs fun K hK=>?_
 simp only [↓EJ,FY,simprocAttr,List.length_map,nl]
 refine hK _ ?_;clear hK K
 have t1:gi (v.map lb) (n - 1)=lb (v.getD (n - 1) 0):=Df (by omega)
 have t2:gi (v.map lb) (n - 2)=lb (v.getD (n - 2) 0):=Df (by omega)
 have t1B:=Be hv (n - 1)
 have t2B:=Be hv (n - 2)
 have f1:((n:Int) - 1).toNat=n - 1:=by omega
 have f2:((n:Int) - 2).toNat=n - 2:=by omega
 have w1:=At (Nat.lt_trans t1B (by decide))
 have w2:=At (Nat.lt_trans t2B (by decide))
 refine WC.dg [⟨0,0,false,[]⟩,⟨1,0,false,[]⟩,⟨2,0,false,[]⟩,⟨3,0,false,[]⟩,⟨4,0,false,[]⟩,⟨5,0,false,[]⟩,⟨6,0,false,[]⟩,⟨7,0,false,[]⟩,⟨8,0,false,[]⟩,⟨9,0,false,[]⟩,⟨10,0,false,[]⟩,⟨11,0,false,[]⟩,⟨12,0,false,[]⟩,⟨13,0,false,[]⟩] [0,0,2,7,15,31,0,0,128,448,960,1984,63,8191] fun K hK=>?_
 simp (disch:=omega) only [↓EJ,FY,simprocAttr,w64,Bh,List.length_map,nl,t1,t2,f1,f2,lb,w1,w2]
 repeat refine And.intro (by omega) ?_
 refine hK _ (Aa [0,4,5,6,7,8,9,10,11,12,13,14,15,16,17,18,19,20,21,22,23,24,63,108,116,117,118,119,120,174,177,178,179,180,223,224,225] ?_);clear hK K
 refine WC.rs fun K hK=>?_
 simp (disch:=omega) only [↓EJ,FY,simprocAttr,w64,Bh,List.length_map,u2]
 repeat refine And.intro (by omega) ?_
 refine hK _ ?_;clear hK K
 obtain ⟨m,hm⟩:∃ m,m=la + 1 - n:=⟨_,rfl⟩
 have em:(((la + 1:Nat):Int) - (n:Int)).toNat=m:=by omega
 rw [em,Hm]
 have hV0:0 < Ai v:=by rw [hvv];exact Nat.mul_pos (by omega) (Nat.pow_pos (by decide))
 have hVB:Ai v < B ^ n:=by rw [←nl];exact Ck hv
 rw [u2,← hm] at hul
 rw [←hvv,← u3] at d1 d2
 refine Bt (X:=List Nat × List Nat) (fun g=>LongInv g.1 g.2 (Ai u) (Ai v) n 0∧g.1.length=la + 1∧g.2.length=m∧lim g.2) (fun g=>⟨[(9,.int .i64 n),(7,.ref (.l 0) 0 (la + 1)),(6,.int .u64 k),(5,.nils),(4,.ref (.l 2) 0 m)],[],[.row (g.1.map lb) 1 151,.dead,.row (g.2.map lb) 1 151],[]⟩) ?_ ?_
 ·refine WC.rs fun K hK=>?_
  simp (disch:=omega) only [↓EJ,FY,simprocAttr,w64,Bh]
  repeat refine And.intro (by omega) ?_
  refine hK _ (Aa [0,4,5,6,7,8,9,10,11,12,13,14,15,16,17,18,19,20,21,22,23,24,63,108,116,117,118,119,120,174,177,178,179,180,223,224,225] ?_);clear hK K
  refine WC.b1 ?_
  refine WC.loop (X:=Nat × List Nat × List Nat) (fun z=>⟨[(12,.int .i64 ((z.1:Int) - 1)),(11,.int .u64 (v.getD (n - 2) 0)),(10,.int .u64 (v.getD (n - 1) 0)),(9,.int .i64 n),(8,.slc (v.map lb)),(7,.ref (.l 0) 0 (la + 1)),(6,.int .u64 k),(5,.nils),(4,.ref (.l 2) 0 m)],[],[.row (z.2.1.map lb) 1 151,.dead,.row (z.2.2.map lb) 1 151],[]⟩)
   (fun z=>LongInv z.2.1 z.2.2 (Ai u) (Ai v) n z.1∧z.2.1.length=la + 1∧z.2.2.length=m∧lim z.2.2∧z.1≤m) (fun z=>z.1) (m,u,List.replicate m 0) [0,1,2]
   ⟨?_,u2,by simp,F2 _,Nat.le_refl _⟩ ?_ ?_
  ·have:=LongInv.start (u:=u) (q:=List.replicate m 0) (V:=Ai v) (n:=n) u1 (by simp;omega) (by simpa using hul)
   simpa using this
  ·exact Conv.all (by simp only [EC,simprocAttr,Ab _ _])
  ·rintro ⟨j1,w,q⟩ ⟨h1,h2',h3,h4,h5⟩
   dsimp only at h1 h2' h3 h4 h5 ⊢
   refine Am fun K1 hK1=>?_
   refine WC.go ?_
   refine WC.cond rfl (fun h=>?_) fun h=>?_
   ·obtain ⟨j,rfl⟩:∃ j,j1=j + 1:=⟨j1 - 1,by simp at h;omega⟩
    have ej:(((j + 1:Nat):Int) - 1)=(j:Int):=by omega
    rw [ej]
    refine WC.skip (hK1 _ ?_)
    refine WC.bs fun K2 hK2=>?_
    have hj:j + n < w.length:=by omega
    have E:=W4 h1 hv nl h2 nt hj
    have a1:(w.map lb)[j + n]? = some (lb (w.getD (j + n) 0)):=Cc hj
    have a2:(w.map lb)[j + n - 1]? = some (lb (w.getD (j + n - 1) 0)):=Cc (by omega)
    have a3:(w.map lb)[j + n - 2]? = some (lb (w.getD (j + n - 2) 0)):=Cc (by omega)
    have b1:=Be h1.lu (j + n)
    have b2:=Be h1.lu (j + n - 1)
    have b3:=Be h1.lu (j + n - 2)
    have z1:((j:Int) + (n:Int)).toNat=j + n:=by omega
    have z2:((j:Int) + (n:Int) - 1).toNat=j + n - 1:=by omega
    have z3:((j:Int) + (n:Int) - 2).toNat=j + n - 2:=by omega
    have c1:=At (Nat.lt_trans b1 (by decide))
    have c2:=At (Nat.lt_trans b2 (by decide))
    have c3:=At (Nat.lt_trans b3 (by decide))
    have hjn:=Mz b1 b2
    have cs:IntKind.wrap .u64 ((w.getD (j + n) 0:Int) * 4294967296)=(w.getD (j + n) 0:Int) * 4294967296:=Bh (by omega) (by rw [Bv] at b1;omega)
    have hwr:=w64 (x:=(j:Int) + (n:Int)) (by omega) (by omega)
    have hwr1:=w64 (x:=(j:Int) + (n:Int) - 1) (by omega) (by omega)
    have hwr2:=w64 (x:=(j:Int) + (n:Int) - 2) (by omega) (by omega)
    refine WC.dg [⟨0,0,false,[]⟩,⟨1,0,false,[]⟩,⟨2,0,false,[]⟩,⟨3,0,false,[]⟩,⟨4,0,false,[]⟩,⟨5,0,false,[]⟩,⟨6,0,false,[]⟩,⟨7,0,false,[]⟩,⟨8,0,false,[]⟩,⟨9,0,false,[]⟩,⟨10,0,false,[]⟩,⟨11,0,false,[]⟩,⟨12,0,false,[]⟩,⟨13,0,false,[]⟩,⟨14,0,false,[]⟩,⟨15,0,false,[]⟩,⟨16,0,false,[]⟩,⟨17,0,false,[]⟩] [0,0,0,6,15,31,63,127,0,0,0,1536,3584,7936,16128,32512,65535,131071] fun K hK=>?_
    simp only [↓EJ,FY,simprocAttr,hwr,hwr1,z1,z2,a1,a2,lb,c1,c2,Gc,cs,hjn]
    repeat refine And.intro (by omega) ?_
    refine hK _ (Aa [0,4,5,6,7,8,9,10,11,12,13,14,15,16,17,18,19,20,21,22,23,24,63,108,116,117,118,119,120,174,177,178,179,180,223,224,225] ?_);clear hK K
    have hfB:w.getD (j + n) 0 * B + w.getD (j + n - 1) 0 < B * B:=by
     have:w.getD (j + n) 0 * B≤(B - 1) * B:=Nat.mul_le_mul_right _ (by omega)
     rw [Bv] at *;omega
    have E0:=E.start
    have htp0:v.getD (n - 1) 0≠0:=fun h0=>by rw [h0] at nt;exact absurd nt (by decide)
    generalize hU:seg w j (n + 1)=U at *
    generalize hfirst:w.getD (j + n) 0 * B + w.getD (j + n - 1) 0=first at *
    generalize hu2:w.getD (j + n - 2) 0=uu at *
    generalize htp:v.getD (n - 1) 0=tp' at *
    generalize hsc:v.getD (n - 2) 0=sc at *
    have q1:=At (n:=first / tp') (Nat.lt_of_le_of_lt (Nat.div_le_self _ _) (Nat.lt_of_lt_of_le hfB (by decide)))
    have tz:((tp':Int)=0)=False:=eq_false (by omega)
    refine WC.dg [⟨0,0,false,[]⟩,⟨1,0,false,[]⟩,⟨2,0,false,[]⟩,⟨3,0,false,[]⟩,⟨4,0,false,[]⟩,⟨5,0,false,[]⟩,⟨6,0,false,[]⟩,⟨7,0,false,[]⟩] [0,0,3,0,0,24,7,127] fun K hK=>?_
    simp only [↓EJ,FY,simprocAttr,Zv,V7,q1,tz]
    repeat refine And.intro (by omega) ?_
    refine hK _ (Aa [0,4,5,6,7,8,9,10,11,12,13,14,15,16,17,18,19,20,21,22,23,24,63,108,116,117,118,119,120,174,177,178,179,180,223,224,225] ?_);clear hK K
    refine Bt (X:=Nat) (fun g=>U / Ai v≤g∧g≤U / Ai v + 1∧g < B) (fun g=>⟨[(14,.int .u64 g),(12,.int .i64 j),(11,.int .u64 sc),(10,.int .u64 tp'),(9,.int .i64 n),(8,.slc (v.map lb)),(7,.ref (.l 0) 0 (la + 1)),(6,.int .u64 k),(5,.nils),(4,.ref (.l 2) 0 m)],[],[.row (w.map lb) 1 151,.dead,.row (q.map lb) 1 151],[]⟩) ?_ ?_
    ·refine WC.b1 ?_
     refine WC.loop (X:=Nat × Nat) (fun z=>⟨[(15,.int .u64 z.2),(14,.int .u64 z.1),(12,.int .i64 j),(11,.int .u64 sc),(10,.int .u64 tp'),(9,.int .i64 n),(8,.slc (v.map lb)),(7,.ref (.l 0) 0 (la + 1)),(6,.int .u64 k),(5,.nils),(4,.ref (.l 2) 0 m)],[],[.row (w.map lb) 1 151,.dead,.row (q.map lb) 1 151],[]⟩)
      (fun z=>EstL U (Ai v) tp' first z.1 z.2∧z.2 < B) (fun z=>z.1) (first / tp',first % tp') [0,1,2] ⟨E0,Nat.lt_trans (Nat.mod_lt _ (by omega)) t1B⟩ ?_ ?_
     ·exact Conv.all (by simp only [EC,simprocAttr,Ab _ _])
     ·rintro ⟨g,r⟩ ⟨g1,g2⟩
      dsimp only at g1 g2 ⊢
      have gle:=E.g_le g1
      refine Am fun K3 hK3=>?_
      refine Pr ⟨[(108,.bool (decide (B≤g∨r * B + uu < g * sc))),(15,.int .u64 r),(14,.int .u64 g),(12,.int .i64 j),(11,.int .u64 sc),(10,.int .u64 tp'),(9,.int .i64 n),(8,.slc (v.map lb)),(7,.ref (.l 0) 0 (la + 1)),(6,.int .u64 k),(5,.nils),(4,.ref (.l 2) 0 m)],[],[.row (w.map lb) 1 151,.dead,.row (q.map lb) 1 151],[]⟩ ?_ ?_
      ·by_cases cg:g < B
       ·have cgi:((g:Int) / 4294967296=0)=True:=eq_true (by rw [Bv] at cg;omega)
        have hgs:g * sc < B * B:=Nat.mul_lt_mul_of_lt_of_lt cg t2B
        have e3:IntKind.wrap .u64 ((g:Int) * (sc:Int))=((g * sc:Nat):Int):=by
         rw [←Int.natCast_mul];exact At (Nat.lt_of_lt_of_le hgs (by decide))
        have e4:IntKind.wrap .u64 ((r:Int) * 4294967296)=(r:Int) * 4294967296:=Bh (by omega) (by rw [Bv] at g2;omega)
        have e6:=Mz g2 b3
        simp only [↓EJ,FY,simprocAttr,hwr,hwr2,z3,a3,lb,c3,Gc,Dd,cgi,Bool.not_true,Bool.not_false,e3,e4,e6]
        repeat refine And.intro (by omega) ?_
        refine ⟨[0,1,2],?_⟩
        refine ⟨by simp,?_,by simp only [↓EJ,FY,simprocAttr,ER,Ab _ _],by simp only [↓EJ,FY,simprocAttr,ER,pick,Ab _ _],rfl⟩
        simp only [↓EJ,FY,simprocAttr,ER,and_self,Ab _ _]
        congr 1
        rw [decide_eq_decide,Int.ofNat_lt]
        exact ⟨Or.inr,fun h=>h.resolve_left (by omega)⟩
       ·have cgi:((g:Int) / 4294967296=0)=False:=eq_false (by rw [Bv] at cg;omega)
        simp only [↓EJ,FY,simprocAttr,hwr,hwr2,z3,a3,lb,c3,Gc,Dd,cgi,Bool.not_true,Bool.not_false]
        refine ⟨[0,1,2],?_⟩
        refine ⟨by simp,?_,by simp only [↓EJ,FY,simprocAttr,ER,Ab _ _],by simp only [↓EJ,FY,simprocAttr,ER,pick,Ab _ _],rfl⟩
        simp only [↓EJ,FY,simprocAttr,ER,and_self,Ab _ _]
        simp;omega
      refine WC.cond rfl (fun h=>?_) fun h=>?_
      ·have hc:B≤g∨r * B + uu < g * sc:=by simpa using h
       obtain ⟨L2,hg0⟩:=E.step g1 hc
       refine WC.skip (hK3 _ ?_)
       refine WC.b1 ?_
       have eg:(g:Int) - 1=((g - 1:Nat):Int):=by omega
       have er:(r:Int) + (tp':Int)=((r + tp':Nat):Int):=by omega
       have wg:=At (n:=g - 1) (by rw [Bv] at gle;omega)
       have wr:=At (n:=r + tp') (by rw [Bv] at g2 t1B;omega)
       refine WC.rs fun K hK=>?_
       simp only [↓EJ,FY,simprocAttr,eg,wg]
       refine hK _ ?_;clear hK K
       refine WC.rs fun K hK=>?_
       simp only [↓EJ,FY,simprocAttr,er,wr]
       refine hK _ ?_;clear hK K
       refine WC.rs fun K hK=>?_
       simp only [↓EJ,FY,simprocAttr,Dd]
       refine hK _ (Aa [0,4,5,6,7,8,9,10,11,12,13,14,15,16,17,18,19,20,21,22,23,24,63,108,116,117,118,119,120,174,177,178,179,180,223,224,225] ?_);clear hK K
       refine WC.cond rfl (fun h=>?_) fun h=>?_
       ·have hB:B≤r + tp':=by simp at h;rw [Bv];omega
        refine WC.exit ?_
        simp only [EQ,reduceIte,Nat.reduceEqDiff]
        obtain ⟨y1,y2,y3⟩:=E.done L2 (.inr ⟨hB,by omega⟩)
        refine ⟨g - 1,[0,1,2],⟨y1,y2,y3⟩,?_⟩
        exact Conv.all (by simp only [EC,simprocAttr,Ab _ _])
       ·have hB:r + tp' < B:=by simp at h;rw [Bv];omega
        refine WC.skip ?_
        try simp only [EQ,simprocAttr]
        refine ⟨(g - 1,r + tp'),[0,1,2],⟨L2,hB⟩,by dsimp only;omega,?_⟩
        exact Conv.all (by simp only [EC,simprocAttr,Ab _ _])
      ·have hc:¬ (B≤g∨r * B + uu < g * sc):=by simpa using h
       refine WC.exit ?_
       simp only [EQ,reduceIte,Nat.reduceEqDiff]
       obtain ⟨y1,y2,y3⟩:=E.done g1 (.inl ⟨by omega,by omega⟩)
       refine ⟨g,[0,1,2],⟨y1,y2,y3⟩,?_⟩
       exact Conv.all (by simp only [EC,simprocAttr,Ab _ _])
    ·rintro g ⟨g1,g2,g3⟩
     refine WC.go ?_
     refine Bt (X:=List Nat × Nat × Nat) (fun z=>z.1.length=la + 1∧lim z.1∧z.1.take j=w.take j∧z.1.drop (j + n)=w.drop (j + n)∧seg z.1 j n + g * Ai v=seg w j n + (z.2.1 + z.2.2) * B ^ n∧z.2.1 < B∧z.2.2≤1)
      (fun z=>⟨[(17,.int .u64 z.2.1),(16,.int .u64 z.2.2),(14,.int .u64 g),(12,.int .i64 j),(11,.int .u64 sc),(10,.int .u64 tp'),(9,.int .i64 n),(8,.slc (v.map lb)),(7,.ref (.l 0) 0 (la + 1)),(6,.int .u64 k),(5,.nils),(4,.ref (.l 2) 0 m)],[],[.row (z.1.map lb) 1 151,.dead,.row (q.map lb) 1 151],[]⟩) ?_ ?_
     ·refine WC.go ?_
      refine WC.b1 ?_
      refine WC.loop (X:=Nat × List Nat × Nat × Nat) (fun z=>⟨[(119,.int .i64 z.1),(118,.int .i64 n),(117,.slc (v.map lb)),(17,.int .u64 z.2.2.1),(16,.int .u64 z.2.2.2),(14,.int .u64 g),(12,.int .i64 j),(11,.int .u64 sc),(10,.int .u64 tp'),(9,.int .i64 n),(8,.slc (v.map lb)),(7,.ref (.l 0) 0 (la + 1)),(6,.int .u64 k),(5,.nils),(4,.ref (.l 2) 0 m)],[],[.row (z.2.1.map lb) 1 151,.dead,.row (q.map lb) 1 151],[]⟩)
       (fun z=>z.1≤n∧z.2.1.length=la + 1∧lim z.2.1∧z.2.1.take j=w.take j∧z.2.1.drop (j + z.1)=w.drop (j + z.1)∧seg z.2.1 j z.1 + g * Ai (v.take z.1)=seg w j z.1 + (z.2.2.1 + z.2.2.2) * B ^ z.1∧z.2.2.1 < B∧z.2.2.2≤1) (fun z=>n - z.1) (0,w,0,0) [0,1,2]
       ⟨Nat.zero_le _,h2',h1.lu,rfl,rfl,by simp [Nk,Ai],Bz,Nat.zero_le _⟩ ?_ ?_
      ·exact Conv.all (by simp only [EC,simprocAttr,Ab _ _,nl,Int.cast_ofNat_Int])
      ·rintro ⟨i,w',c,bo⟩ ⟨s1,s2,s3,s4,s5,s6,s7,s8⟩
       dsimp only at s1 s2 s3 s4 s5 s6 s7 s8 ⊢
       refine WC.go ?_
       refine WC.cs (c:=.tmp 120) rfl fun K5 hK5=>⟨fun h=>?_,fun h=>?_⟩
       ·have hlt:i < n:=by simpa using h
        have hg:=Df (l:=v) (i:=i) (by omega)
        have hdB:=Be hv i
        have hts:=Aq v i
        refine WC.skip (hK5 _ ?_)
        refine WC.bs fun K6 hK6=>?_
        refine WC.rs fun K hK=>?_
        simp only [↓EJ,FY,simprocAttr,List.length_map,nl,hg,lb]
        repeat refine And.intro (by omega) ?_
        refine hK _ ?_;clear hK K
        generalize v.getD i 0=d at *
        have x1:(w'.map lb)[j + i]? = some (lb (w'.getD (j + i) 0)):=Cc (by omega)
        have hui:=Be s3 (j + i)
        have huw:=Du s5
        have zi:((j:Int) + (i:Int)).toNat=j + i:=by omega
        have hwi:=w64 (x:=(j:Int) + (i:Int)) (by omega) (by omega)
        have hss:=Ii w j i
        rw [←huw] at hss
        generalize hui':w'.getD (j + i) 0=ui at *
        have wui:=At (Nat.lt_trans hui (by decide))
        have wd:=At (Nat.lt_trans hdB (by decide))
        obtain ⟨m1,m2,_,_⟩:=Zw hui g3 hdB s7 s8
        have wgd:IntKind.wrap .u64 ((g:Int) * (d:Int))=((g * d:Nat):Int):=by
         rw [←Int.natCast_mul];exact At (by rw [Bv] at m1;omega)
        have wcg:IntKind.wrap .u64 ((c:Int) + ((g * d:Nat):Int))=((c + g * d:Nat):Int):=by
         rw [←Int.natCast_add];exact At (by rw [Bv] at m1;omega)
        refine WC.rs fun K hK=>?_
        simp only [↓EJ,FY,simprocAttr,wd,wgd,wcg]
        refine hK _ (Aa [0,4,5,6,7,8,9,10,11,12,13,14,15,16,17,18,19,20,21,22,23,24,63,108,116,117,118,119,120,174,177,178,179,180,223,224,225] ?_);clear hK K
        generalize hp:c + g * d=p at *
        have hpm:=Nat.mod_lt p Bz
        have hand:=and32 (c:=p) (by rw [Bv] at m1;omega)
        obtain ⟨x',bo',l1,l2,l3,l4,l5⟩:=W7 ui (p % B) bo hui hpm s8
        refine WC.rs fun K hK=>?_
        simp only [↓EJ,FY,simprocAttr,hwi,zi,x1,lb,wui,hand]
        repeat refine And.intro (by omega) ?_
        refine hK _ (Aa [0,4,5,6,7,8,9,10,11,12,13,14,15,16,17,18,19,20,21,22,23,24,63,108,116,117,118,119,120,174,177,178,179,180,223,224,225] ?_);clear hK K
        refine WC.rs fun K hK=>?_
        simp only [↓EJ,FY,simprocAttr,List.length_map,hwi,zi,x1,lb,l4]
        repeat refine And.intro (by omega) ?_
        refine hK _ (Aa [0,4,5,6,7,8,9,10,11,12,13,14,15,16,17,18,19,20,21,22,23,24,63,108,116,117,118,119,120,174,177,178,179,180,223,224,225] ?_);clear hK K
        rw [Cn]
        refine WC.rs fun K hK=>?_
        simp only [↓EJ,FY,simprocAttr,Wd,l5]
        refine hK _ ?_;clear hK K
        have e32:(p:Int) / 4294967296=((p / B:Nat):Int):=by rw [Bv];omega
        have wp:=At (Nat.lt_trans m2 (by decide))
        refine WC.r1 ?_
        simp only [↓EJ,FY,simprocAttr,Dd,e32,wp]
        refine hK6 _ ?_
        refine WC.r1 ?_
        simp (disch:=omega) only [↓EJ,FY,simprocAttr,w64,Bh]
        try simp only [EQ,simprocAttr]
        refine ⟨(i + 1,w'.set (j + i) x',p / B,bo'),[0,1,2],⟨by dsimp only;omega,by dsimp only;simp [s2],Cr s3 _ l1,?_,?_,?_,m2,l2⟩,by dsimp only;omega,?_⟩
        ·dsimp only;rw [Cl (by omega),s4]
        ·dsimp only;rw [Dw (by omega),← Nat.add_assoc,← List.drop_drop,s5,List.drop_drop]
        ·dsimp only
         rw [Lx (by omega),hts,hss,Nat.pow_succ]
         refine Ol s6 ?_
         have hmd:=Nat.mod_add_div p B
         rw [Nat.mul_add]
         omega
        ·exact Conv.all (by simp only [EC,simprocAttr,Int.natCast_add,Ab _ _])
       ·have hge:i=n:=by simp at h;omega
        subst hge
        refine WC.exit ?_
        simp only [EQ,reduceIte,Nat.reduceEqDiff]
        refine ⟨(w',c,bo),[0,1,2],⟨s2,s3,s4,s5,?_,s7,s8⟩,?_⟩
        ·rw [A5 (by omega)] at s6;exact s6
        ·exact Conv.all (by simp only [EC,simprocAttr,Ab _ _])
     ·rintro ⟨w',c,bo⟩ ⟨s2,s3,s4,s5,s6,s7,s8⟩
      dsimp only at s2 s3 s4 s5 s6 s7 s8 ⊢
      have x1:(w'.map lb)[j + n]? = some (lb (w'.getD (j + n) 0)):=Cc (by omega)
      have hui:=Be s3 (j + n)
      have huw:=Du s5
      have hss:=Ii w j n
      rw [←huw] at hss
      generalize hui':w'.getD (j + n) 0=ui at *
      have wui:=At (Nat.lt_trans hui (by decide))
      obtain ⟨x',bo',l1,l2,l3,l4,l5⟩:=W7 ui c bo hui s7 s8
      refine WC.rs fun K hK=>?_
      simp only [↓EJ,FY,simprocAttr,hwr,z1,x1,lb,wui]
      repeat refine And.intro (by omega) ?_
      refine hK _ (Aa [0,4,5,6,7,8,9,10,11,12,13,14,15,16,17,18,19,20,21,22,23,24,63,108,116,117,118,119,120,174,177,178,179,180,223,224,225] ?_);clear hK K
      refine WC.rs fun K hK=>?_
      simp only [↓EJ,FY,simprocAttr,List.length_map,hwr,z1,x1,lb,l4]
      repeat refine And.intro (by omega) ?_
      refine hK _ (Aa [0,4,5,6,7,8,9,10,11,12,13,14,15,16,17,18,19,20,21,22,23,24,63,108,116,117,118,119,120,174,177,178,179,180,223,224,225] ?_);clear hK K
      rw [Cn]
      have hseg:=Ol (d:=0) (ui:=ui) (x:=x') (c':=0) (bo':=bo') s6 (by rw [Nat.mul_zero,Nat.zero_add];omega)
      rw [←Lx (by omega),Nat.mul_zero,Nat.add_zero,Nat.zero_add,← hss,hU,← Nat.pow_succ] at hseg
      have k1':(w'.set (j + n) x').length=la + 1:=by simp [s2]
      have k2':lim (w'.set (j + n) x'):=Cr s3 _ l1
      have k3':(w'.set (j + n) x').take j=w.take j:=by rw [Cl (by omega),s4]
      have k4':(w'.set (j + n) x').drop (j + n + 1)=w.drop (j + n + 1):=by rw [Dw (by omega),← List.drop_drop,s5,List.drop_drop]
      generalize w'.set (j + n) x'=y2 at *
      obtain ⟨n0,n1⟩:=Zx hV0 g1 g2 (Uh k2' j (n + 1)) hVB hseg
      refine Bt (X:=List Nat) (fun z=>z.length=la + 1∧lim z∧z.take j=w.take j∧z.drop (j + n + 1)=w.drop (j + n + 1)∧seg z j (n + 1)=U % Ai v)
       (fun z=>⟨[(14,.int .u64 (U / Ai v:Nat)),(12,.int .i64 j),(11,.int .u64 sc),(10,.int .u64 tp'),(9,.int .i64 n),(8,.slc (v.map lb)),(7,.ref (.l 0) 0 (la + 1)),(6,.int .u64 k),(5,.nils),(4,.ref (.l 2) 0 m)],[],[.row (z.map lb) 1 151,.dead,.row (q.map lb) 1 151],[]⟩) ?_ ?_
      ·refine WC.rs fun K hK=>?_
       simp only [↓EJ,FY,simprocAttr,Wd,l5]
       refine hK _ ?_;clear hK K
       refine WC.cond rfl (fun h=>?_) fun h=>?_
       ·obtain ⟨n2,n3⟩:=n1 (by simp at h;omega)
        have eg:(g:Int) - 1=((U / Ai v:Nat):Int):=by omega
        have wg:=At (n:=U / Ai v) (by rw [Bv] at g3;omega)
        refine WC.rs fun K hK=>?_
        simp only [↓EJ,FY,simprocAttr,eg,wg]
        refine hK _ ?_;clear hK K
        refine WC.go ?_
        refine Bt (X:=List Nat × Nat) (fun z=>z.1.length=la + 1∧lim z.1∧z.1.take j=w.take j∧z.1.drop (j + n)=y2.drop (j + n)∧seg z.1 j n + z.2 * B ^ n=seg y2 j n + Ai v∧z.2≤1)
         (fun z=>⟨[(17,.int .u64 z.2),(14,.int .u64 (U / Ai v:Nat)),(12,.int .i64 j),(11,.int .u64 sc),(10,.int .u64 tp'),(9,.int .i64 n),(8,.slc (v.map lb)),(7,.ref (.l 0) 0 (la + 1)),(6,.int .u64 k),(5,.nils),(4,.ref (.l 2) 0 m)],[],[.row (z.1.map lb) 1 151,.dead,.row (q.map lb) 1 151],[]⟩) ?_ ?_
        ·refine WC.go ?_
         refine WC.b1 ?_
         refine WC.loop (X:=Nat × List Nat × Nat) (fun z=>⟨[(179,.int .i64 z.1),(178,.int .i64 n),(177,.slc (v.map lb)),(17,.int .u64 z.2.2),(14,.int .u64 (U / Ai v:Nat)),(12,.int .i64 j),(11,.int .u64 sc),(10,.int .u64 tp'),(9,.int .i64 n),(8,.slc (v.map lb)),(7,.ref (.l 0) 0 (la + 1)),(6,.int .u64 k),(5,.nils),(4,.ref (.l 2) 0 m)],[],[.row (z.2.1.map lb) 1 151,.dead,.row (q.map lb) 1 151],[]⟩)
          (fun z=>z.1≤n∧z.2.1.length=la + 1∧lim z.2.1∧z.2.1.take j=w.take j∧z.2.1.drop (j + z.1)=y2.drop (j + z.1)∧seg z.2.1 j z.1 + z.2.2 * B ^ z.1=seg y2 j z.1 + Ai (v.take z.1)∧z.2.2≤1) (fun z=>n - z.1) (0,y2,0) [0,1,2]
          ⟨Nat.zero_le _,k1',k2',k3',rfl,by simp [Nk,Ai],Nat.zero_le _⟩ ?_ ?_
         ·exact Conv.all (by simp only [EC,simprocAttr,Ab _ _,nl,Int.cast_ofNat_Int])
         ·rintro ⟨i,w3,cc⟩ ⟨p1,p2,p3,p4,p5,p6,p7⟩
          dsimp only at p1 p2 p3 p4 p5 p6 p7 ⊢
          refine WC.go ?_
          refine WC.cs (c:=.tmp 180) rfl fun K7 hK7=>⟨fun h=>?_,fun h=>?_⟩
          ·have hlt:i < n:=by simpa using h
           have hg:=Df (l:=v) (i:=i) (by omega)
           have hdB:=Be hv i
           have hts:=Aq v i
           refine WC.skip (hK7 _ ?_)
           refine WC.bs fun K8 hK8=>?_
           refine WC.rs fun K hK=>?_
           simp only [↓EJ,FY,simprocAttr,List.length_map,nl,hg,lb]
           repeat refine And.intro (by omega) ?_
           refine hK _ (Aa [0,4,5,6,7,8,9,10,11,12,13,14,15,16,17,18,19,20,21,22,23,24,63,108,116,117,118,119,120,174,177,178,179,180,223,224,225] ?_);clear hK K
           generalize v.getD i 0=d at *
           have x2:(w3.map lb)[j + i]? = some (lb (w3.getD (j + i) 0)):=Cc (by omega)
           have hwi3:=Be p3 (j + i)
           have huw3:=Du p5
           have zi:((j:Int) + (i:Int)).toNat=j + i:=by omega
           have hwi:=w64 (x:=(j:Int) + (i:Int)) (by omega) (by omega)
           have hs3:=Ii y2 j i
           rw [←huw3] at hs3
           generalize hwi3':w3.getD (j + i) 0=wi at *
           have wui':=At (Nat.lt_trans hwi3 (by decide))
           have wd:=At (Nat.lt_trans hdB (by decide))
           have wa:IntKind.wrap .u64 ((wi:Int) + (d:Int))=((wi + d:Nat):Int):=by
            rw [←Int.natCast_add];exact At (by rw [Bv] at *;omega)
           have wb:IntKind.wrap .u64 ((cc:Int) + ((wi + d:Nat):Int))=((cc + (wi + d):Nat):Int):=by
            rw [←Int.natCast_add];exact At (by rw [Bv] at *;omega)
           refine WC.rs fun K hK=>?_
           simp only [↓EJ,FY,simprocAttr,hwi,zi,x2,lb,wui',wd,wa,wb]
           repeat refine And.intro (by omega) ?_
           refine hK _ (Aa [0,4,5,6,7,8,9,10,11,12,13,14,15,16,17,18,19,20,21,22,23,24,63,108,116,117,118,119,120,174,177,178,179,180,223,224,225] ?_);clear hK K
           generalize hp:cc + (wi + d)=p at *
           have hpB:p < 2 * B:=by omega
           have e31:(p:Int) % 4294967296=((p % B:Nat):Int):=by rw [Bv];omega
           have e32:(p:Int) / 4294967296=((p / B:Nat):Int):=by rw [Bv];omega
           have wp:=At (n:=p / B) (by rw [Bv] at hpB ⊢;omega)
           refine WC.rs fun K hK=>?_
           simp only [↓EJ,FY,simprocAttr,List.length_map,hwi,zi,x2,lb,Iv,e31]
           repeat refine And.intro (by omega) ?_
           refine hK _ (Aa [0,4,5,6,7,8,9,10,11,12,13,14,15,16,17,18,19,20,21,22,23,24,63,108,116,117,118,119,120,174,177,178,179,180,223,224,225] ?_);clear hK K
           rw [Cn]
           refine WC.r1 ?_
           simp only [↓EJ,FY,simprocAttr,Dd,e32,wp]
           refine hK8 _ ?_
           refine WC.r1 ?_
           simp (disch:=omega) only [↓EJ,FY,simprocAttr,w64,Bh]
           try simp only [EQ,simprocAttr]
           refine ⟨(i + 1,w3.set (j + i) (p % B),p / B),[0,1,2],⟨by dsimp only;omega,by dsimp only;simp [p2],Cr p3 _ (Nat.mod_lt _ Bz),?_,?_,?_,?_⟩,by dsimp only;omega,?_⟩
           ·dsimp only;rw [Cl (by omega),p4]
           ·dsimp only;rw [Dw (by omega),← Nat.add_assoc,← List.drop_drop,p5,List.drop_drop]
           ·dsimp only
            rw [Lx (by omega),hts,hs3,Nat.pow_succ]
            refine M6 p6 ?_
            have hmd:=Nat.mod_add_div p B
            omega
           ·dsimp only;rw [Bv] at hpB ⊢;omega
           ·exact Conv.all (by simp only [EC,simprocAttr,Int.natCast_add,Ab _ _])
          ·have hge:i=n:=by simp at h;omega
           subst hge
           refine WC.exit ?_
           simp only [EQ,reduceIte,Nat.reduceEqDiff]
           refine ⟨(w3,cc),[0,1,2],⟨p2,p3,p4,p5,?_,p7⟩,?_⟩
           ·rw [A5 (by omega)] at p6;exact p6
           ·exact Conv.all (by simp only [EC,simprocAttr,Ab _ _])
        ·rintro ⟨w3,cc⟩ ⟨p2,p3,p4,p5,p6,p7⟩
         dsimp only at p2 p3 p4 p5 p6 p7 ⊢
         have x2:(w3.map lb)[j + n]? = some (lb (w3.getD (j + n) 0)):=Cc (by omega)
         have huw3:=Du p5
         have ht3:=Be p3 (j + n)
         have hs3:=Ii y2 j n
         rw [←huw3] at hs3
         generalize hwi3':w3.getD (j + n) 0=wi at *
         have hkey:seg w3 j n + B ^ n * (wi + cc)=seg y2 j (n + 1) + Ai v:=by
          rw [hs3,Nat.mul_add,Nat.mul_comm _ cc];omega
         obtain ⟨v1,v2⟩:=back_end (Uh p3 j n) ht3 p7 n3 hkey
         have wcc:IntKind.wrap .u32 (cc:Int)=(cc:Int):=Ff (Nat.lt_of_le_of_lt p7 (by decide))
         have wsum:IntKind.wrap .u32 ((wi:Int) + (cc:Int))=((0:Nat):Int):=by
          rw [Iv,← v1,Bv];omega
         refine WC.r1 ?_
         simp only [↓EJ,FY,simprocAttr,List.length_map,hwr,z1,x2,lb,wcc,wsum]
         repeat refine And.intro (by omega) ?_
         try simp only [EQ,simprocAttr]
         have e0:(w3.map lb).set (j + n) (.int .u32 0)=(w3.set (j + n) 0).map lb:=Cn w3 (j + n) 0
         refine ⟨w3.set (j + n) 0,[0,1,2],⟨by simp [p2],Cr p3 _ Bz,by rw [Cl (by omega),p4],?_,?_⟩,?_⟩
         ·rw [Dw (by omega),← List.drop_drop,p5,List.drop_drop,k4']
         ·rw [Lx (by omega),Nat.mul_zero,Nat.add_zero];exact v2
         ·exact Conv.all (by simp only [EC,simprocAttr,Ab _ _,e0])
       ·obtain ⟨n2,n3⟩:=n0 (by simp at h;omega)
        refine WC.skip ?_
        try simp only [EQ,simprocAttr]
        refine ⟨y2,[0,1,2],⟨k1',k2',k3',k4',n3⟩,?_⟩
        rw [←n2]
        exact Conv.all (by simp only [EC,simprocAttr,Ab _ _])
      ·rintro z ⟨r1,r2,r3,r4,r5⟩
       have hqB:=E.q_lt
       have wq:=Ff hqB
       have hst:=h1.step hV0 hVB hj (by omega) r2 r3 r4 (by omega) (by rw [show Ai ((z.drop j).take (n + 1))=seg z j (n + 1) from rfl,r5,← hU];rfl)
       rw [show Ai ((w.drop j).take (n + 1))=U from hU] at hst
       have xq:(q.map lb)[j]? = some (lb (q.getD j 0)):=Cc (by omega)
       refine WC.r1 ?_
       simp only [↓EJ,FY,simprocAttr,List.length_map,wq,xq,lb]
       repeat refine And.intro (by omega) ?_
       refine hK2 _ ?_
       rw [Cn]
       refine WC.r1 ?_
       simp (disch:=omega) only [↓EJ,FY,simprocAttr,w64,Bh]
       try simp only [EQ,simprocAttr]
       refine ⟨(j,z,q.set j (U / Ai v)),[0,1,2],⟨hst,r1,by dsimp only;simp [h3],Cr h4 _ hqB,by dsimp only;omega⟩,by dsimp only;omega,?_⟩
       exact Conv.all (by simp only [EC,simprocAttr,Ab _ _])
   ·have hj0:j1=0:=by simp at h;omega
    subst hj0
    refine WC.exit ?_
    simp only [EQ,reduceIte,Nat.reduceEqDiff]
    refine ⟨(w,q),[0,1,2],⟨h1,h2',h3,h4⟩,?_⟩
    exact Conv.all (by simp only [EC,simprocAttr,Ab _ _])
 ·rintro ⟨w,q⟩ ⟨h1,h2',h3,h4⟩
  dsimp only at h1 h2' h3 h4 ⊢
  obtain ⟨dq,dr⟩:=h1.done
  rw [d1] at dq
  rw [d2] at dr
  have zn:((n:Nat):Int).toNat=n:=Int.toNat_natCast n
  refine WC.rs fun K hK=>?_
  simp only [↓EJ,FY,simprocAttr,zn]
  repeat refine And.intro (by omega) ?_
  refine hK _ ?_;clear hK K
  rw [Hm]
  refine Bt (X:=List Nat) (fun z=>z.length=n∧lim z∧Ai z=x % y) (fun z=>⟨[(5,.ref (.l 3) 0 n),(4,.ref (.l 2) 0 m)],[],[.row (w.map lb) 1 151,.dead,.row (q.map lb) 1 151,.row (z.map lb) 1 151],[]⟩) ?_ ?_
  ·refine WC.go ?_
   refine WC.b1 ?_
   refine WC.loop (X:=Nat × List Nat) (fun z=>⟨[(224,.int .i64 z.1),(223,.int .i64 n),(7,.ref (.l 0) 0 (la + 1)),(6,.int .u64 k),(5,.ref (.l 3) 0 n),(4,.ref (.l 2) 0 m)],[],[.row (w.map lb) 1 151,.dead,.row (q.map lb) 1 151,.row (z.2.map lb) 1 151],[]⟩)
    (fun z=>z.1≤n∧z.2.length=n∧lim z.2∧2 ^ k * Ai (z.2.take z.1) + w.getD 0 0 % 2 ^ k=Ai (w.take z.1) + B ^ z.1 * (w.getD z.1 0 % 2 ^ k)) (fun z=>n - z.1) (0,List.replicate n 0) [0,1,2,3]
    ⟨Nat.zero_le _,by simp,F2 _,by simp [Ai]⟩ ?_ ?_
   ·exact Conv.all (by simp only [EC,simprocAttr,Ab _ _,Int.cast_ofNat_Int])
   ·rintro ⟨i,z⟩ ⟨p1,p2,p3,p4⟩
    dsimp only at p1 p2 p3 p4 ⊢
    refine WC.go ?_
    refine WC.cs (c:=.tmp 225) rfl fun K9 hK9=>⟨fun h=>?_,fun h=>?_⟩
    ·have hlt:i < n:=by simpa using h
     have x1:(w.map lb)[i]? = some (lb (w.getD i 0)):=Cc (by omega)
     have x2:(w.map lb)[i + 1]? = some (lb (w.getD (i + 1) 0)):=Cc (by omega)
     have y1:=Be h1.lu i
     have y2:=Be h1.lu (i + 1)
     have zi:((i:Int) + 1).toNat=i + 1:=by omega
     have wi:=w64 (x:=(i:Int) + 1) (by omega) (by omega)
     have c1:=At (Nat.lt_trans y1 (by decide))
     have c2:=At (Nat.lt_trans y2 (by decide))
     have cs:IntKind.wrap .u64 ((w.getD (i + 1) 0:Int) * 4294967296)=(w.getD (i + 1) 0:Int) * 4294967296:=Bh (by omega) (by rw [Bv] at y2;omega)
     have hjn:=Mz y2 y1
     have hsh:=Wc (r:=z.set i ((w.getD (i + 1) 0 * B + w.getD i 0) / 2 ^ k % B)) (i:=i) k1 h1.lu (by rw [Cl (Nat.le_refl _)];exact p4) (Num.getD_set_eq (by omega) _)
     have hfB:w.getD (i + 1) 0 * B + w.getD i 0 < 18446744073709551616:=by rw [Bv] at *;omega
     generalize w.getD (i + 1) 0 * B + w.getD i 0=f at *
     have hfd:=Nat.lt_of_le_of_lt (Nat.div_le_self f (2 ^ k)) hfB
     have cf:=At hfd
     have e31:((f / 2 ^ k:Nat):Int) % 4294967296=((f / 2 ^ k % B:Nat):Int):=by rw [Bv];omega
     refine WC.skip (hK9 _ ?_)
     refine WC.bs fun K10 hK10=>?_
     refine WC.go ?_
     have xz:(z.map lb)[i]? = some (lb (z.getD i 0)):=Cc (by omega)
     refine Dn [⟨0,0,false,[]⟩,⟨1,0,false,[]⟩,⟨2,0,false,[]⟩,⟨3,0,false,[]⟩,⟨4,0,false,[]⟩,⟨5,0,false,[]⟩,⟨6,0,false,[]⟩,⟨7,0,false,[]⟩,⟨8,0,false,[]⟩,⟨9,0,false,[]⟩,⟨10,0,false,[]⟩,⟨11,0,false,[]⟩,⟨12,0,false,[]⟩,⟨13,0,false,[]⟩,⟨14,0,false,[]⟩,⟨15,0,false,[]⟩,⟨16,0,false,[]⟩,⟨17,0,false,[]⟩,⟨18,0,false,[]⟩,⟨19,1,false,[]⟩] [0,0,0,0,8,28,60,124,252,0,0,1536,3584,7680,16380,0,65532,131068,262143,524287] ?_
     simp only [↓EJ,FY,simprocAttr,wi,zi,x1,x2,xz,lb,c1,c2,cs,hjn,Gc,shrN k1,cf,Iv,e31,List.length_map,Int.toNat_natCast]
     repeat refine And.intro (by omega) ?_
     refine hK10 _ ?_
     refine WC.r1 ?_
     simp (disch:=omega) only [↓EJ,FY,simprocAttr,w64,Bh]
     try simp only [EQ,simprocAttr]
     refine ⟨(i + 1,z.set i (f / 2 ^ k % B)),[0,1,2,3],⟨by dsimp only;omega,by dsimp only;simp [p2],Cr p3 _ (Nat.mod_lt _ Bz),hsh⟩,by dsimp only;omega,?_⟩
     exact Conv.all (by simp only [EC,simprocAttr,Int.natCast_add,Ab _ _,Cn])
    ·have hge:i=n:=by simp at h;omega
     subst hge
     refine WC.exit ?_
     simp only [EQ,reduceIte,Nat.reduceEqDiff]
     refine ⟨z,[0,1,2,3],⟨p2,p3,?_⟩,?_⟩
     ·refine Wr k1 h1.lu (by omega) ?_ dr p2 p4
      rw [dr,← d2];exact Nat.lt_of_lt_of_le (Nat.mod_lt _ hV0) (Nat.le_of_lt hVB)
     ·exact Conv.all (by simp only [EC,simprocAttr,Ab _ _])
  ·rintro z ⟨p1,p2,p3⟩
   have htq:=Jw q h4 (by omega)
   have htz:=Jw z p2 (by omega)
   rw [h3,dq] at htq
   rw [p1,p3] at htz
   refine WC.rs fun K hK=>?_
   simp only [↓EJ,FY,simprocAttr]
   refine CallX.mk (Kc (r:=.l 2) (args':=[.ref (.o 0) 0 m]) htq rfl (fun f=>by simp only [Cu,Ab _ f]) (by simp [Ba,ren,A4]) ?_)
   rintro _ ⟨kq,kq1,kq2,rfl⟩
   simp only [↓EJ,FY,simprocAttr,ren,Ec,List.length_cons,List.length_nil,List.getD_cons_zero]
   refine CallX.mk (Kc (r:=.l 3) (args':=[.ref (.o 0) 0 n]) htz rfl (fun f=>by simp only [Cu,Ab _ f]) (by simp [Ba,ren,A4]) ?_)
   rintro _ ⟨kz,kz1,kz2,rfl⟩
   simp only [↓EJ,FY,simprocAttr,ren,Ec,List.length_cons,List.length_nil,List.getD_cons_zero]
   refine hK _ (Aa [0,4,5,6,7,8,9,10,11,12,14,15,16,17,108,117,118,119,177,178,179,223,224] ?_);clear hK K
   refine WC.frz 4 2 rfl rfl (by simp;omega) ?_
   refine WC.frz 5 3 rfl rfl (by simp;omega) ?_
   have eq1:((q.map lb).drop 0).take kq=(toL (x / y)).map lb:=by rw [List.drop_zero,← List.map_take,kq2]
   have eq2:((z.map lb).drop 0).take kz=(toL (x % y)).map lb:=by rw [List.drop_zero,← List.map_take,kz2]
   rw [eq1,eq2]
   refine WC.ret ?_
   simp only [↓EJ,FY,simprocAttr,EQ,EF,Tryz.results211]
   exact An (by simp only [CL,Al,and_self]) rfl
end Go.LexSem
set_option maxHeartbeats 4000000
set_option maxRecDepth 8000
namespace Go.LexSem
open Go Go.V Go.Proofs Go.Num

/-- The limbs of a number. -/
def nv (n:Nat):PVal:=lbs (toL n)
theorem Ar (n:Nat):Closed (nv n)=True:=Al _
theorem Ik (f:Ref→Ref) (n:Nat):ren f (nv n)=nv n:=of_eq_true (Ar n) f
theorem nv0:nv 0=.slc []:=by rw [nv,Cq];rfl
theorem Dp (n:Nat):nv n=.slc ((toL n).map lb):=rfl
/-- Numbers that are not too great for the walk. -/
def okN (n:Nat):Prop:=(toL n).length≤10000
theorem Uv {m n:Nat} (h:m≤n) (hn:okN n):okN m:=Nat.le_trans (Nu h) hn
theorem trimN (n:Nat) (h:okN n):FSem C 167 [nv n] [] fun r st=>r=.ret (nv n)∧st=[]:=by
 have:=Fu (toL n) (Bo n) (Nat.le_trans h (by decide))
 rwa [Br] at this
theorem cmpN (a b:Nat) (ha:okN a) (hb:okN b):FSem C 200 [nv a,nv b] [] fun r st=>r=.ret (.int .i64 (Kl a b))∧st=[]:=by
 have:=Y4 (toL a) (toL b) (Bo a) (Bo b) (Nat.le_trans ha (by decide)) (Nat.le_trans hb (by decide))
 rwa [Br,Br] at this
theorem cloneN (n:Nat) (h:okN n):FSem C 208 [nv n] [] fun r st=>r=.ret (nv n)∧st=[]:=Tu _ (Nat.le_trans h (by decide))
theorem Nt (n:Nat) (h:okN n):FSem C 201 [nv n] [] fun r st=>r=.ret (nv n)∧st=[]:=by
 have:=W0 (toL n) (Bo n) (Nat.le_trans h (by decide))
 rwa [Br] at this

theorem cmpI_neg {a b:Nat}:Kl a b < 0↔a < b:=by
 unfold Kl
 split
 ·simp_all
 ·split <;> simp_all
theorem cmpI_zero {a b:Nat}:Kl a b=0↔a=b:=by
 unfold Kl
 split
 ·simp;omega
 ·split <;> simp_all
theorem M2 (x y:Nat) (hx:okN x) (hy:okN y) (hy0:y≠0):FSem C 203 [nv x,nv y] [] fun r st=>r=.ret (.tuple [nv (x / y),nv (x % y),.int .i64 0])∧st=[]:=by
 have hyl:(toL y).length≠0:=fun h=>hy0 (toL_eq_nil.1 (List.length_eq_zero_iff.1 h))
 refine FSem.en 48 Tryz.func203 ?_
 simp only [Aj]
 refine WC.go ?_
 refine WC.rs fun K hK=>?_
 simp only [↓EJ,FY,simprocAttr]
 refine CallX.mk (CallW.pure (trimN x hx) (by simp only [CL,Ar,Al,As,Ab,and_self]) (by simp only [CL,Ar,Al,As,Ab,and_self]) ?_)
 simp only [↓EJ,FY,simprocAttr]
 refine CallX.mk (CallW.pure (trimN y hy) (by simp only [CL,Ar,Al,As,Ab,and_self]) (by simp only [CL,Ar,Al,As,Ab,and_self]) ?_)
 simp only [↓EJ,FY,simprocAttr]
 refine hK _ ?_;clear hK K
 refine WC.bs fun K1 hK1=>?_
 refine WC.rs fun K hK=>?_
 simp only [↓EJ,FY,simprocAttr,Dp,List.length_map]
 refine hK _ (Aa [0,1,4,5,6,7,8,13,17,24] ?_);clear hK K
 refine WC.cond rfl (fun h=>?_) fun h=>?_
 ·simp at h;exact absurd (List.length_eq_zero_iff.2 h) hyl
 ·refine WC.rs fun K hK=>?_
  simp only [↓EJ,FY,simprocAttr]
  refine CallX.mk (CallW.pure (cmpN x y hx hy) (by simp only [CL,Ar,Al,As,Ab,and_self]) (by simp only [CL,Ar,Al,As,Ab,and_self]) ?_)
  simp only [↓EJ,FY,simprocAttr]
  refine hK _ ?_;clear hK K
  refine WC.cond rfl (fun h=>?_) fun h=>?_
  ·have hlt:x < y:=cmpI_neg.1 (by simpa using h)
   refine WC.rs fun K hK=>?_
   simp only [↓EJ,FY,simprocAttr]
   refine CallX.mk (CallW.pure (cloneN x hx) (by simp only [CL,Ar,Al,As,Ab,and_self]) (by simp only [CL,Ar,Al,As,Ab,and_self]) ?_)
   simp only [↓EJ,FY,simprocAttr]
   refine hK _ (Aa [0,1,4,5,6,7,8,24] ?_);clear hK K
   refine Vg 4 rfl ?_
   refine WC.ret ?_
   simp only [↓EJ,FY,simprocAttr,EQ,EF,Tryz.results203]
   exact An (by simp only [CL,Ar,Al,As,Ab,and_self]) (by rw [Nat.div_eq_of_lt hlt,Nat.mod_eq_of_lt hlt,nv0])
  ·have hle:y≤x:=by
    rcases Nat.lt_or_ge x y with h' | h'
    ·exact absurd (cmpI_neg.2 h') (by simpa using h)
    ·exact h'
   refine WC.go ?_
   refine WC.cond rfl (fun h=>?_) fun h=>?_
   ·have h1:(toL y).length=1:=by simp at h;omega
    have hyB:y < B:=by
     have:=Ck (Bo y)
     rwa [Br,h1,Nat.pow_one] at this
    have hyt:toL y=[y]:=Mq hy0 hyB
    have hm:=Nat.mod_lt x (Nat.pos_of_ne_zero hy0)
    have hs:=short_sem (toL x) y (Bo x) (Nat.le_trans hx (by decide)) (Nat.pos_of_ne_zero hy0) hyB
    rw [Br] at hs
    have wm:=At (Nat.lt_trans hm (Nat.lt_trans hyB (by decide)))
    refine WC.rs fun K hK=>?_
    simp only [↓EJ,FY,simprocAttr,hyt,List.map_cons,List.map_nil,gi,List.getD_cons_zero,Jr]
    repeat refine And.intro (by omega) ?_
    refine CallX.mk (CallW.pure hs (by simp only [CL,Ar,Al,As,Ab,and_self]) (by simp only [CL,Ar,Al,As,Ab,and_self]) ?_)
    simp only [↓EJ,FY,simprocAttr]
    refine hK _ (Aa [0,1,4,5,6,7,8] ?_);clear hK K
    refine WC.rs fun K hK=>?_
    simp only [↓EJ,FY,simprocAttr,lb,wm]
    refine CallX.mk (CallW.pure (Nx (x % y) (Nat.lt_trans hm (Nat.lt_trans hyB (by decide)))) (by simp only [CL,Ar,Al,As,Ab,and_self]) (by simp only [CL,Ar,Al,As,Ab,and_self]) ?_)
    simp only [↓EJ,FY,simprocAttr]
    refine hK _ ?_;clear hK K
    refine WC.ret ?_
    simp only [↓EJ,FY,simprocAttr,EQ,EF,Tryz.results203]
    exact An (by simp only [CL,Ar,Al,As,Ab,and_self]) rfl
   ·have h2:2≤(toL y).length:=by simp at h;omega
    refine WC.skip (hK1 _ ?_)
    refine WC.rs fun K hK=>?_
    simp only [↓EJ,FY,simprocAttr]
    refine CallX.mk (CallW.pure (long_sem x y hle h2 hx) (by simp only [CL,Ar,Al,As,Ab,and_self]) (by simp only [CL,Ar,Al,As,Ab,and_self]) ?_)
    simp only [↓EJ,FY,simprocAttr]
    refine hK _ (Aa [4,5,6] ?_);clear hK K
    refine WC.go ?_
    refine WC.ret ?_
    simp only [↓EJ,FY,simprocAttr,EQ,EF,Tryz.results203]
    exact An (by simp only [CL,Ar,Al,As,Ab,and_self]) rfl
theorem gcd_sem (x y:Nat) (hx:okN x) (hy:okN y):FSem C 202 [nv x,nv y] [] fun r st=>r=.ret (nv (x.gcd y))∧st=[]:=by
 refine FSem.en 47 Tryz.func202 ?_
 simp only [Aj]
 refine WC.go ?_
 refine WC.rs fun K hK=>?_
 simp only [↓EJ,FY,simprocAttr]
 refine CallX.mk (CallW.pure (Nt x hx) (by simp only [CL,Ar,Al,As,Ab,and_self]) (by simp only [CL,Ar,Al,As,Ab,and_self]) ?_)
 simp only [↓EJ,FY,simprocAttr]
 refine CallX.mk (CallW.pure (Nt y hy) (by simp only [CL,Ar,Al,As,Ab,and_self]) (by simp only [CL,Ar,Al,As,Ab,and_self]) ?_)
 simp only [↓EJ,FY,simprocAttr]
 refine hK _ ?_;clear hK K
 refine Bt (X:=Nat × Nat) (fun z=>z.1.gcd z.2=x.gcd y∧(toL z.1).length≤2∧(toL z.2).length≤2) (fun z=>⟨[(1,nv z.2),(0,nv z.1)],[],[],[]⟩) ?_ ?_
 ·refine WC.b1 ?_
  refine WC.loop (X:=Nat × Nat) (fun z=>⟨[(4,.nils),(1,nv z.2),(0,nv z.1)],[],[],[]⟩) (fun z=>z.1.gcd z.2=x.gcd y∧okN z.1∧okN z.2) (fun z=>z.2) (x,y) [] ⟨rfl,hx,hy⟩ ?_ ?_
  ·exact Conv.all (by simp only [EC,simprocAttr,Ik])
  ·rintro ⟨a,b⟩ ⟨h1,h2,h3⟩
   dsimp only at h1 h2 h3 ⊢
   refine Am fun K2 hK2=>?_
   refine Pr ⟨[(21,.bool (decide (2 < (toL a).length∨2 < (toL b).length))),(4,.nils),(1,nv b),(0,nv a)],[],[],[]⟩ ?_ ?_
   ·by_cases ca:2 < (toL a).length
    ·have cai:((2:Int) < ((toL a).length:Int))=True:=eq_true (by omega)
     simp only [↓EJ,FY,simprocAttr,Dp,List.length_map,cai,Bool.not_true]
     refine ⟨[],?_⟩
     refine ⟨by simp,?_,by simp only [↓EJ,FY,simprocAttr,ER,Ab _ _],by simp only [↓EJ,FY,simprocAttr,ER,pick,Ab _ _],rfl⟩
     simp only [↓EJ,FY,simprocAttr,ER,and_self,Ab _ _]
     simp [ca]
    ·have cai:((2:Int) < ((toL a).length:Int))=False:=eq_false (by omega)
     simp only [↓EJ,FY,simprocAttr,Dp,List.length_map,cai,Bool.not_false]
     refine ⟨[],?_⟩
     refine ⟨by simp,?_,by simp only [↓EJ,FY,simprocAttr,ER,Ab _ _],by simp only [↓EJ,FY,simprocAttr,ER,pick,Ab _ _],rfl⟩
     simp only [↓EJ,FY,simprocAttr,ER,and_self,Ab _ _]
     simp [ca]
     omega
   refine WC.cond rfl (fun h=>?_) fun h=>?_
   ·have hc:2 < (toL a).length∨2 < (toL b).length:=by simpa using h
    refine WC.skip (hK2 _ ?_)
    refine WC.b1 ?_
    refine Am fun K3 hK3=>?_
    refine WC.rs fun K hK=>?_
    simp only [↓EJ,FY,simprocAttr,Dp,List.length_map]
    refine hK _ (Aa [0,1,4,6,8,9,21,24,40] ?_);clear hK K
    refine WC.cond rfl (fun h=>?_) fun h=>?_
    ·have hb0:b=0:=toL_eq_nil.1 (List.length_eq_zero_iff.1 (by simpa using h))
     subst hb0
     refine WC.go ?_
     refine WC.ret ?_
     simp only [↓EJ,FY,simprocAttr,EQ,EF,Tryz.results202]
     refine An (by simp only [CL,Ar,Al,As,Ab,and_self]) ?_
     rw [←h1,Nat.gcd_zero_right];rfl
    ·have hb0:b≠0:=fun e=>by subst e;rw [Cq] at h;simp at h
     refine WC.skip (hK3 _ ?_)
     refine WC.rs fun K hK=>?_
     simp only [↓EJ,FY,simprocAttr]
     refine CallX.mk (CallW.pure (M2 a b h2 h3 hb0) (by simp only [CL,Ar,Al,As,Ab,and_self]) (by simp only [CL,Ar,Al,As,Ab,and_self]) ?_)
     simp only [↓EJ,FY,simprocAttr]
     refine hK _ (Aa [0,1,4,6,8,9,21,24,40] ?_);clear hK K
     refine WC.r1 ?_
     simp only [↓EJ,FY,simprocAttr]
     try simp only [EQ,simprocAttr]
     refine ⟨(b,a % b),[],⟨by rw [←h1,Nat.gcd_comm a b,Nat.gcd_rec b a,Nat.gcd_comm],h3,Uv (Nat.mod_le _ _) h2⟩,Nat.mod_lt _ (Nat.pos_of_ne_zero hb0),?_⟩
     exact Conv.all (by simp only [EC,simprocAttr,Dp,Ab _ _])
   ·have hc:¬ (2 < (toL a).length∨2 < (toL b).length):=by simpa using h
    refine WC.exit ?_
    simp only [EQ,reduceIte,Nat.reduceEqDiff]
    refine ⟨(a,b),[],⟨h1,by dsimp only;omega,by dsimp only;omega⟩,?_⟩
    exact Conv.all (by simp only [EC,simprocAttr,Ik])
 ·rintro ⟨a,b⟩ ⟨h1,h2,h3⟩
  dsimp only at h1 h2 h3 ⊢
  have ha:=Mp (toL a) (Bo a) h2
  have hb:=Mp (toL b) (Bo b) h3
  have ea:=Ck (Bo a)
  have eb:=Ck (Bo b)
  have p2:∀ n:Nat,n≤2→B ^ n≤18446744073709551616:=fun n hn=>Nat.le_trans (Nat.pow_le_pow_right Bz hn) (by decide)
  have la:=p2 _ h2
  have lb:=p2 _ h3
  rw [Br] at ha hb ea eb
  refine WC.rs fun K hK=>?_
  simp only [↓EJ,FY,simprocAttr]
  refine CallX.mk (CallW.pure ha (by simp only [CL,Ar,Al,As,Ab,and_self]) (by simp only [CL,Ar,Al,As,Ab,and_self]) ?_)
  simp only [↓EJ,FY,simprocAttr]
  refine CallX.mk (CallW.pure hb (by simp only [CL,Ar,Al,As,Ab,and_self]) (by simp only [CL,Ar,Al,As,Ab,and_self]) ?_)
  simp only [↓EJ,FY,simprocAttr]
  refine hK _ ?_;clear hK K
  refine Bt (X:=Nat) (fun z=>z=x.gcd y∧z < 18446744073709551616) (fun z=>⟨[(8,.int .u64 z)],[],[],[]⟩) ?_ ?_
  ·refine WC.b1 ?_
   refine WC.loop (X:=Nat × Nat) (fun z=>⟨[(9,.int .u64 z.2),(8,.int .u64 z.1)],[],[],[]⟩) (fun z=>z.1.gcd z.2=x.gcd y∧z.1 < 18446744073709551616∧z.2 < 18446744073709551616) (fun z=>z.2) (a,b) [] ⟨h1,by omega,by omega⟩ ?_ ?_
   ·exact Conv.all (by simp only [EC,simprocAttr])
   ·rintro ⟨a,b⟩ ⟨h1,h2,h3⟩
    dsimp only at h1 h2 h3 ⊢
    refine Am fun K5 hK5=>?_
    refine WC.go ?_
    refine WC.cond rfl (fun h=>?_) fun h=>?_
    ·have hb0:b≠0:=fun e=>by subst e;simp at h
     have hbi:((b:Int)=0)=False:=eq_false (by omega)
     refine WC.skip (hK5 _ ?_)
     refine WC.b1 ?_
     have wm:=At (Nat.lt_trans (Nat.mod_lt a (Nat.pos_of_ne_zero hb0)) h3)
     refine Dn [⟨0,0,false,[]⟩,⟨1,0,false,[]⟩,⟨2,0,false,[]⟩,⟨3,0,false,[]⟩,⟨4,0,false,[]⟩,⟨5,0,false,[]⟩] [0,0,0,6,3,31] ?_
     simp only [↓EJ,FY,simprocAttr,hbi,V7]
     repeat refine And.intro (by omega) ?_
     try simp only [EQ,simprocAttr]
     refine ⟨(b,a % b),[],⟨by rw [←h1,Nat.gcd_comm a b,Nat.gcd_rec b a,Nat.gcd_comm],h3,Nat.lt_trans (Nat.mod_lt a (Nat.pos_of_ne_zero hb0)) h3⟩,Nat.mod_lt _ (Nat.pos_of_ne_zero hb0),?_⟩
     exact Conv.all (by simp only [EC,simprocAttr])
    ·have hb0:b=0:=by simp at h;omega
     subst hb0
     refine WC.exit ?_
     simp only [EQ,reduceIte,Nat.reduceEqDiff]
     refine ⟨a,[],⟨by rw [←h1,Nat.gcd_zero_right],h2⟩,?_⟩
     exact Conv.all (by simp only [EC,simprocAttr])
  ·rintro z ⟨rfl,hz⟩
   refine WC.rs fun K hK=>?_
   simp only [↓EJ,FY,simprocAttr]
   refine CallX.mk (CallW.pure (Nx _ hz) (by simp only [CL,Ar,Al,As,Ab,and_self]) (by simp only [CL,Ar,Al,As,Ab,and_self]) ?_)
   simp only [↓EJ,FY,simprocAttr]
   refine hK _ (Aa [0,1,4,8,9,21] ?_);clear hK K
   refine WC.ret ?_
   simp only [↓EJ,FY,simprocAttr,EQ,EF,Tryz.results202]
   exact An (by simp only [CL,Ar,Al,As,Ab,and_self]) rfl
end Go.LexSem
set_option maxHeartbeats 4000000
set_option maxRecDepth 8000
namespace Go.LexSem
open Go Go.V Go.Proofs Go.Num

theorem Y7 (n:Nat) (h:okN n):FSem C 189 [nv n] [] fun r st=>r=.ret (.bool (decide (n=0)))∧st=[]:=by
 have hc:FSem C 200 [nv n,.nils] [] fun r st=>r=.ret (.int .i64 (Kl n 0))∧st=[] :=
  (cmpN n 0 h (by simp [okN,Cq])).weak ⟨.inl rfl,.inr ⟨rfl,nv0⟩,trivial⟩
 refine FSem.en 6 Tryz.func189 ?_
 simp only [Aj]
 refine WC.go ?_
 refine WC.rs fun K hK=>?_
 simp only [↓EJ,FY,simprocAttr]
 refine CallX.mk (CallW.pure hc (by simp only [CL,Ar,Al,As,Ab,and_self]) (by simp only [CL,Ar,Al,As,Ab,and_self]) ?_)
 simp only [↓EJ,FY,simprocAttr]
 refine hK _ ?_;clear hK K
 refine WC.ret ?_
 simp only [↓EJ,FY,simprocAttr,EQ,EF,Tryz.results189]
 refine An (by simp only [CL,Ar,Al,As,Ab,and_self]) ?_
 simp [cmpI_zero]

/-- A number as the program keeps it: nil where it is zero. -/
def A8 (n:Nat):PVal:=if n=0 then .nils else nv n
theorem Av (n:Nat):Closed (A8 n)=True:=by
 unfold A8;split
 ·exact eq_true (fun _=>rfl)
 ·exact Ar n
/-- A fraction. -/
def Fb (neg:Bool) (n d:Nat):PVal:=.agg [.bool neg,A8 n,nv d]
theorem Hy (neg:Bool) (n d:Nat):Closed (Fb neg n d):=by
 have h:Closed (Fb neg n d)=True:=by simp only [Fb,CL,Av,Ar,and_self]
 exact of_eq_true h
theorem Pi (neg:Bool) (n d:Nat):(Fb neg n d).solid=true:=by
 unfold Fb A8 nv lbs;split <;> rfl
theorem Pj (neg:Bool) (n d:Nat):(Fb neg n d).cells=[.bool neg,A8 n,nv d]:=by
 unfold Fb A8 nv lbs;split <;> rfl
theorem Ys (neg:Bool) (x y:Nat) (hx:okN x) (hy:okN y) (hy0:y≠0):FSem C 190 [.bool neg,nv x,nv y] [] fun r st=>r=.ret (Fb (neg && decide (x≠0)) (x / x.gcd y) (y / x.gcd y))∧st=[]:=by
 refine FSem.en 50 Tryz.func190 ?_
 simp only [Aj]
 refine WC.go ?_
 refine WC.rs fun K hK=>?_
 simp only [↓EJ,FY,simprocAttr]
 refine CallX.mk (CallW.pure (Nt x hx) (by simp only [CL,Ar,Al,As,Ab,and_self]) (by simp only [CL,Ar,Al,As,Ab,and_self]) ?_)
 simp only [↓EJ,FY,simprocAttr]
 refine CallX.mk (CallW.pure (Nt y hy) (by simp only [CL,Ar,Al,As,Ab,and_self]) (by simp only [CL,Ar,Al,As,Ab,and_self]) ?_)
 simp only [↓EJ,FY,simprocAttr]
 refine hK _ ?_;clear hK K
 refine Am fun K1 hK1=>?_
 refine WC.rs fun K hK=>?_
 simp only [↓EJ,FY,simprocAttr,Dp,List.length_map]
 refine hK _ (Aa [0,1,2,6,7,14,29] ?_);clear hK K
 refine WC.cond rfl (fun h=>?_) fun h=>?_
 ·have hx0:x=0:=toL_eq_nil.1 (List.length_eq_zero_iff.1 (by simpa using h))
  subst hx0
  refine A2 [0] fun K hK=>?_
  simp only [↓EJ,FY,simprocAttr,EZ]
  refine hK _ ?_;clear hK K
  refine WC.ret ?_
  simp only [↓EJ,FY,simprocAttr,EQ,EF,Tryz.results190]
  refine An (by simp only [Fb,CL,Av,Ar,and_self]) ?_
  rw [Fb,Nat.gcd_zero_left,Nat.div_self (Nat.pos_of_ne_zero hy0),Nat.zero_div,A8,if_pos rfl,nv,Mq (by decide) (by decide)]
  simp [lbs,lb]
 ·have hx0:x≠0:=fun e=>by subst e;rw [Cq] at h;simp at h
  refine WC.skip (hK1 _ ?_)
  refine WC.rs fun K hK=>?_
  simp only [↓EJ,FY,simprocAttr]
  refine CallX.mk (CallW.pure (gcd_sem x y hx hy) (by simp only [CL,Ar,Al,As,Ab,and_self]) (by simp only [CL,Ar,Al,As,Ab,and_self]) ?_)
  simp only [↓EJ,FY,simprocAttr]
  refine hK _ (Aa [0,1,2,6,7,29] ?_);clear hK K
  have hg0:x.gcd y≠0:=fun e=>hx0 (Nat.eq_zero_of_gcd_eq_zero_left e)
  have hg1:1≤(toL (x.gcd y)).length:=by
   have:toL (x.gcd y)≠[]:=fun e=>hg0 (toL_eq_nil.1 e)
   have:=List.length_pos_iff.2 this
   omega
  have hgx:=Nat.gcd_dvd_left x y
  have hgy:=Nat.gcd_dvd_right x y
  have hok:=Uv (Nat.gcd_le_left y (Nat.pos_of_ne_zero hx0)) hx
  have hxg:x / x.gcd y≠0:=fun e=>by
   have:=Nat.div_mul_cancel hgx
   rw [e,Nat.zero_mul] at this
   exact hx0 this.symm
  generalize x.gcd y=g at *
  refine Bt (X:=Unit) (fun _=>True) (fun _=>⟨[(2,nv (y / g)),(1,nv (x / g)),(6,.ptr (.l 0) 0 0),(0,.bool neg)],[],[.row [.agg [.bool false,.nils,.nils]] 3 227],[]⟩) ?_ ?_
  ·refine Bt (X:=Unit) (fun _=>True) (fun _=>⟨[(29,.bool (decide (g≠1))),(7,nv g),(2,nv y),(1,nv x),(6,.ptr (.l 0) 0 0),(0,.bool neg)],[],[.row [.agg [.bool false,.nils,.nils]] 3 227],[]⟩) ?_ ?_
   ·by_cases c1:(toL g).length=1
    ·have hgB:g < B:=by
      have:=Ck (Bo g)
      rwa [Br,c1,Nat.pow_one] at this
     have hgt:toL g=[g]:=Mq hg0 hgB
     refine WC.r1 ?_
     simp only [↓EJ,FY,simprocAttr,Dp,hgt,List.map_cons,List.map_nil,List.length_cons,List.length_nil,Bool.not_true,Bool.not_false,gi,List.getD_cons_zero,lb]
     try simp only [EQ,simprocAttr]
     first | refine ⟨(),[0],trivial,?_⟩ | refine ⟨(),[0],?_⟩
     refine ⟨by simp,?_,by simp only [↓EJ,FY,simprocAttr,ER,Dp,hgt,List.map_cons,List.map_nil,Ab _ _,lb],by simp only [↓EJ,FY,simprocAttr,ER,pick,Dp,hgt,List.map_cons,List.map_nil,Ab _ _,lb],rfl⟩
     simp only [↓EJ,FY,simprocAttr,ER,and_self,Dp,hgt,List.map_cons,List.map_nil,Ab _ _,lb]
     simp
     omega
    ·have c1i:(((toL g).length:Int)=1)=False:=eq_false (by omega)
     have hg1':g≠1:=fun e=>by subst e;rw [Mq (by decide) (by decide)] at c1;simp at c1
     refine WC.r1 ?_
     simp only [↓EJ,FY,simprocAttr,Dp,List.length_map,c1i,Bool.not_true,Bool.not_false]
     try simp only [EQ,simprocAttr]
     first | refine ⟨(),[0],trivial,?_⟩ | refine ⟨(),[0],?_⟩
     refine ⟨by simp,?_,by simp only [↓EJ,FY,simprocAttr,ER,Dp,Ab _ _],by simp only [↓EJ,FY,simprocAttr,ER,pick,Dp,Ab _ _],rfl⟩
     simp only [↓EJ,FY,simprocAttr,ER,and_self,Dp,Ab _ _]
     simp [hg1']
   ·rintro _ _
    refine WC.cond rfl (fun h=>?_) fun h=>?_
    ·refine WC.rs fun K hK=>?_
     simp only [↓EJ,FY,simprocAttr]
     refine CallX.mk (CallW.pure (M2 x g hx hok hg0) (by simp only [CL,Ar,Al,As,Ab,and_self]) (by simp only [CL,Ar,Al,As,Ab,and_self]) ?_)
     simp only [↓EJ,FY,simprocAttr]
     refine hK _ (Aa [0,1,2,6,7,29] ?_);clear hK K
     refine WC.r1 ?_
     simp only [↓EJ,FY,simprocAttr]
     refine CallX.mk (CallW.pure (M2 y g hy hok hg0) (by simp only [CL,Ar,Al,As,Ab,and_self]) (by simp only [CL,Ar,Al,As,Ab,and_self]) ?_)
     simp only [↓EJ,FY,simprocAttr]
     try simp only [EQ,simprocAttr]
     first | refine ⟨(),[0],trivial,?_⟩ | refine ⟨(),[0],?_⟩
     exact Conv.all (by simp only [EC,simprocAttr,Dp,Ab _ _])
    ·have hg1':g=1:=by simpa using h
     subst hg1'
     refine WC.skip ?_
     try simp only [EQ,simprocAttr]
     first | refine ⟨(),[0],trivial,?_⟩ | refine ⟨(),[0],?_⟩
     exact Conv.all (by simp only [EC,simprocAttr,Nat.div_one,Dp,Ab _ _])
  ·rintro _ _
   refine WC.rs fun K hK=>?_
   simp only [↓EJ,FY,simprocAttr,Dp]
   refine hK _ (Aa [0,1,2,6,7,29] ?_);clear hK K
   refine WC.ret ?_
   simp only [↓EJ,FY,simprocAttr,EQ,EF,Tryz.results190]
   exact An (by simp only [Fb,CL,← Dp,Av,Ar,and_self]) (by simp [Fb,hx0,A8,hxg,Dp])
theorem rat_sem (b:Bool) (n d:Nat):FSem C 191 [Fb b n d] [] fun r st=>r=.ret (Fb b n d)∧st=[]:=by
 have hc:=Hy b n d
 revert hc
 unfold Fb A8
 by_cases h:n=0
 ·intro hc
  simp only [h,if_true] at hc ⊢
  refine FSem.en 13 Tryz.func191 ?_
  simp only [Aj]
  refine WC.rs fun K hK=>?_
  simp only [↓EJ,FY,simprocAttr,Dp]
  refine hK _ ?_;clear hK K
  refine WC.go (Aa [2] ?_)
  refine WC.ret ?_
  simp only [↓EJ,FY,simprocAttr,EQ,EF,Tryz.results191]
  exact An hc rfl
 ·intro hc
  simp only [h,if_false] at hc ⊢
  refine FSem.en 13 Tryz.func191 ?_
  simp only [Aj]
  refine WC.rs fun K hK=>?_
  simp only [↓EJ,FY,simprocAttr,Dp]
  refine hK _ ?_;clear hK K
  refine WC.go (Aa [2] ?_)
  refine WC.ret ?_
  simp only [↓EJ,FY,simprocAttr,EQ,EF,Tryz.results191]
  exact An hc rfl
theorem W2 (neg:Bool) (x y:Nat) (hx:okN x) (hy:okN y):FSem C 173 [.bool neg,nv x,nv y] [] fun r st =>
  r=.ret (.tuple (if y=0 then [.agg [.bool false,.nils,.nils],.int .i64 3] else [Fb (neg && decide (x≠0)) (x / x.gcd y) (y / x.gcd y),.int .i64 0]))∧st=[]:=by
 refine FSem.en 16 Tryz.func173 ?_
 simp only [Aj]
 refine WC.go ?_
 refine Am fun K1 hK1=>?_
 refine WC.rs fun K hK=>?_
 simp only [↓EJ,FY,simprocAttr]
 refine CallX.mk (CallW.pure (Y7 y hy) (by simp only [CL,Ar,Al,As,Ab,and_self]) (by simp only [CL,Ar,Al,As,Ab,and_self]) ?_)
 simp only [↓EJ,FY,simprocAttr]
 refine hK _ ?_;clear hK K
 refine WC.cond rfl (fun h=>?_) fun h=>?_
 ·have hy0:y=0:=by simpa using h
  refine WC.go ?_
  refine WC.ret ?_
  simp only [↓EJ,FY,simprocAttr,EQ,EF,Tryz.results173]
  exact An (by rw [if_pos hy0];simp only [CL,and_self]) (by simp [hy0])
 ·have hy0:y≠0:=by simpa using h
  refine WC.skip (hK1 _ ?_)
  have hr:=Ys neg x y hx hy hy0
  have hfc:=Hy (neg && decide (x≠0)) (x / x.gcd y) (y / x.gcd y)
  have hrat:=rat_sem (neg && decide (x≠0)) (x / x.gcd y) (y / x.gcd y)
  rw [if_neg hy0]
  have hfs:=Pi (neg && decide (x≠0)) (x / x.gcd y) (y / x.gcd y)
  have hfl:=Pj (neg && decide (x≠0)) (x / x.gcd y) (y / x.gcd y)
  have hfd:Fb (neg && decide (x≠0)) (x / x.gcd y) (y / x.gcd y)=.agg [.bool (neg && decide (x≠0)),A8 (x / x.gcd y),nv (y / x.gcd y)]:=rfl
  generalize hF:Fb (neg && decide (x≠0)) (x / x.gcd y) (y / x.gcd y)=fr at *
  refine WC.rs fun K hK=>?_
  simp only [↓EJ,FY,simprocAttr]
  refine CallX.mk (CallW.pure hr (by simp only [CL,Ar,Al,As,Ab,and_self]) hfc ?_)
  simp only [↓EJ,FY,simprocAttr]
  refine CallX.mk (CallW.pure hrat (by simp only [CL,hfc,and_self]) hfc ?_)
  simp only [↓EJ,FY,simprocAttr,hfs,hfl,List.length_cons,List.length_nil,List.drop_succ_cons,List.drop_zero,List.append_nil,and_true,true_and]
  refine hK _ (Aa [6,7] ?_);clear hK K
  refine WC.ret ?_
  simp only [↓EJ,FY,simprocAttr,EQ,EF,Tryz.results173]
  exact An (by simp only [CL,hfc,← hfd,and_self]) (by rw [hfd])
theorem Cm {g:FuncId} {args:List PVal} {σ:St} {K KP:PVal→St→Prop} {u:TagK K KP} {v:PVal} (spec:FSem C g args [] fun r st=>r=.ret v∧st=[]) (h:K v σ)
  (ha:ClosedL args:=by simp only [CL,Ar,Al,As,Ab,Av,and_self]) (hv:Closed v:=by simp only [CL,Ar,Al,As,Ab,Av,and_self]):CallX C g args σ K KP u:=CallX.mk (CallW.pure spec ha hv h)
end Go.LexSem
