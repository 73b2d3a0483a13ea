/-
 Texts joined: RpA RpB.
-/
import Derived.Test.YtenieameoojbjaaGreatDoorUMN
import Derived.Test.YtenieameoojbjaaGreatDoorUMM
set_option linter.unusedVariables false
set_option linter.unusedSimpArgs false
set_option linter.loopingSimpArgs false
-- TIGHT
set_option maxHeartbeats 16000000
set_option maxRecDepth 8000
namespace Go.LexSem
open Go Go.V Go.Proofs Go.Num

/-! ### What is read is not too long -/
def Ok {α:Type} (ts:List Tok) (P:α→Prop) (x:PR α):Prop:=∀ v s',x=.ok (v,s')→PInv ts s'∧P v
theorem Ok.bnd {α β:Type} {ts:List Tok} {P:α→Prop} {Q:β→Prop} {x:PR α} {f:α→PS→PR β} (hx:Ok ts P x) (hf:∀ a s,P a→PInv ts s→Ok ts Q (f a s)):Ok ts Q (bnd x f):=fun v s' h=>by
 obtain ⟨a,s1,h1,h2⟩:=Ac h
 obtain ⟨i,p⟩:=hx a s1 h1
 exact hf a s1 p i v s' h2
theorem Ok.ok {α:Type} {ts:List Tok} {P:α→Prop} {v:α} {s:PS} (i:PInv ts s) (h:P v):Ok ts P (.ok (v,s)):=fun v' s' e=>by cases e;exact ⟨i,h⟩
theorem Ok.er {α:Type} {ts:List Tok} {P:α→Prop} {e:Er}:Ok ts P (.error e:PR α):=fun v' s' h=>by cases h
theorem Ok.acc {ts:List Tok} {s:PS} (i:PInv ts s) (t:List UInt8):Ok ts (fun _=>True) (Ak ts t s):=fun v s' h=>⟨(A7 i h).1,trivial⟩
theorem Ok.exp {ts:List Tok} {s:PS} (i:PInv ts s) (t:List UInt8) (l:List (List UInt8)):Ok ts (fun _=>True) (Ah ts (t::l) s):=fun v s' h=>⟨(A6 i h).1,trivial⟩
theorem Ok.num {ts:List Tok} {s:PS} (i:PInv ts s):Ok ts (fun _=>True) (Bu ts s):=fun v s' h=>⟨(Ey i h).1,trivial⟩
theorem Ok.int {ts:List Tok} {s:PS} (i:PInv ts s):Ok ts (fun _=>True) (Cj ts s):=fun v s' h=>⟨(Io i h).1,trivial⟩
theorem Ok.name {ts:List Tok} {s:PS} (i:PInv ts s):Ok ts (fun _=>True) (C2 ts s):=fun v s' h=>⟨(B9 i h).1,trivial⟩
theorem dec_250 {w:List UInt8} (h:w.length≤60) (hd:∀ c∈w,A9 (c.toNat:Int)=true):dec w < 2 ^ 250 :=
 Nat.lt_of_lt_of_le (Oy w hd) (Nat.le_trans (Nat.pow_le_pow_right (by decide) h) (by decide))
theorem R4 {ts:List Tok} {s:PS} (i:PInv ts s):Ok ts (fun n=>n < 2 ^ 250) (E9 ts s):=fun v s' h=>by
 obtain ⟨rfl,hk,rfl,_⟩:=Ea i h
 obtain ⟨_,h60,hd⟩:=i.num _ (I7 i) hk
 exact ⟨i,dec_250 h60 hd⟩
theorem Un {b:Bool} {n d:Nat} (hn:n < 2 ^ 250) (hd:d < 2 ^ 250):Nn (Hq b n d)=true:=by
 rw [Nn,Bool.and_eq_true,decide_eq_true_eq,decide_eq_true_eq]
 exact ⟨Nat.lt_of_le_of_lt (Nat.div_le_self _ _) hn,Nat.lt_of_le_of_lt (Nat.div_le_self _ _) hd⟩
theorem Xp {ts:List Tok} {s:PS} (i:PInv ts s):Ok ts (fun n=>n < 2 ^ 250) (Gs ts s):=fun v s' h=>by
 refine ⟨(F4 i h).1,?_⟩
 unfold Gs at h
 split at h
 ·cases h
 ·rename_i n s1 hl
  have:=(R4 i _ _ hl).2
  split at h
  ·cases h
  ·cases h;exact this
theorem Vh {ts:List Tok} {s:PS} (i:PInv ts s):Ok ts (fun q=>Nn q=true) (Dm ts s):=fun q s' h=>by
 refine ⟨(J7 i h).1,?_⟩
 unfold Dm at h
 split at h
 ·cases h
 rename_i b s1 ha
 have i1:=(A7 i ha).1
 split at h
 ·cases h
 rename_i n s2 hl
 have hn:=(R4 i1 _ _ hl).2
 obtain ⟨rfl,hk,_,_⟩:=Ea i1 hl
 have i2:=i1.go (o:=s2.opn) (by omega) (by omega) (by omega)
 split at h
 ·cases h
 ·cases h;exact Un hn (by decide)
 ·rename_i s3 ha2
  split at h
  ·cases h
  ·rename_i d s4 hd
   cases h;exact Un hn (Xp (A7 i2 ha2).1 _ _ hd).2
structure OkX (ts:List Tok) (n:Nat):Prop where
 expr:∀ {s},PInv ts s→Ok ts (fun e=>Gw e=true) (Eg ts n s)
 left:∀ {l s},PInv ts s→Ok ts (fun e=>Gw e=true) (Ch ts n l s)
 loop:∀ {l a s},PInv ts s→Gw a=true→Ok ts (fun e=>Gw e=true) (Fw ts n l a s)
 operand:∀ {l s},PInv ts s→Ok ts (fun e=>Gw e=true) (B4 ts n l s)
 cmp:∀ {s},PInv ts s→Ok ts (fun e=>Gw e=true) (Km ts n s)
 unary:∀ {s},PInv ts s→Ok ts (fun e=>Gw e=true) (D0 ts n s)
 post:∀ {a s},PInv ts s→Gw a=true→Ok ts (fun e=>Gw e=true) (Jp ts n a s)
 primary:∀ {s},PInv ts s→Ok ts (fun e=>Gw e=true) (C1 ts n s)
 exprs:∀ {s},PInv ts s→Ok ts (fun l=>Eu l=true) (Ed ts n s)
 more:∀ {a s},PInv ts s→D6 a=true→Ok ts (fun l=>D6 l=true) (Ki ts n a s)
theorem Tn:∀ {a b:List Ex},D6 a=true→D6 b=true→D6 (a ++ b)=true
 | [],_,_,h=>h
 | e::a,b,h,k=>by
   simp only [D6,Bool.and_eq_true,List.cons_append] at h ⊢
   exact ⟨h.1,Tn h.2 k⟩
theorem D7 {op:Nat} {i:Int} {w:List UInt8} {l:List Ex} (h:Eu l=true):Gw (.mk op i zr w l)=true:=by
 simp only [Eu,Bool.and_eq_true] at h
 simp only [Gw,Bool.and_eq_true]
 exact ⟨by decide,h.1,h.2⟩
theorem exOk_1 {op:Nat} {a:Ex} (ha:Gw a=true):Gw (exN op [a])=true:=D7 (by simp [Eu,D6,ha])
theorem Ze {op:Nat} {a b:Ex} (ha:Gw a=true) (hb:Gw b=true):Gw (exN op [a,b])=true:=D7 (by simp [Eu,D6,ha,hb])
theorem okX (ts:List Tok):∀ n,OkX ts n
 | 0=>by constructor <;> intros <;> simp only [Eg,Ch,Fw,B4,Km,D0,Jp,C1,Ed,Ki] <;> exact Ok.er
 | n + 1=>by
   have H:=okX ts n
   constructor
   ·intro s i
    rw [Eg]
    refine Ok.bnd (H.left i) fun e s he i=>Ok.bnd (Ok.acc i _) fun b s _ i=>?_
    cases b
    ·exact Ok.ok i he
    ·exact Ok.bnd (H.expr i) fun y s hy i=>Ok.bnd (Ok.exp i _ _) fun _ s _ i=>Ok.bnd (H.expr i) fun z s hz i=>Ok.ok i (D7 (by simp [Eu,D6,he,hy,hz]))
   ·intro l s i
    rw [Ch]
    exact Ok.bnd (H.operand i) fun e s he i=>H.loop i he
   ·intro l a s i ha
    rw [Fw]
    split
    ·exact Ok.ok i ha
    ·rename_i op ho
     exact Ok.bnd (H.operand (M0 i (by rw [Tf ho];decide)).1) fun c s hc i=>H.loop i (D7 (by simp [Eu,D6,ha,hc]))
   ·intro l s i
    rw [B4]
    split
    ·exact H.cmp i
    ·split
     ·exact H.unary i
     ·exact H.left i
   ·intro s i
    rw [Km]
    refine Ok.bnd (H.left i) fun a s ha i=>?_
    repeat' first
     | exact Ok.bnd (H.left (by assumption)) fun c s hc i=>Ok.ok i (Ze ha hc)
     | exact Ok.bnd (H.left (by assumption)) fun c s hc i=>Ok.ok i (Ze hc ha)
     | exact Ok.bnd (H.left (by assumption)) fun c s hc i=>Ok.ok i (exOk_1 (Ze ha hc))
     | exact Ok.ok (by assumption) ha
     | (refine Ok.bnd (Ok.acc (by assumption) _) fun b s _ i=>?_
        cases b)
   ·intro s i
    rw [D0]
    refine Ok.bnd (Ok.acc i _) fun b s _ i=>?_
    cases b
    ·refine Ok.bnd (Ok.acc i _) fun b s _ i=>?_
     cases b
     ·exact Ok.bnd (H.primary i) fun e s he i=>H.post i he
     ·exact Ok.bnd (H.unary i) fun e s he i=>Ok.ok i (D7 (by simp [Eu,D6,he]))
    ·exact Ok.bnd (H.unary i) fun e s he i=>Ok.ok i (D7 (by simp [Eu,D6,he]))
   ·intro a s i ha
    rw [Jp]
    refine Ok.bnd (Ok.acc i _) fun b s _ i=>?_
    cases b
    ·refine Ok.bnd (Ok.acc i _) fun b s _ i=>?_
     cases b
     ·exact Ok.ok i ha
     ·exact Ok.bnd (H.expr i) fun c s hc i=>Ok.bnd (Ok.exp i _ _) fun _ s _ i=>H.post i (D7 (by simp [Eu,D6,ha,hc]))
    ·exact Ok.bnd (Ok.num i) fun k s _ i=>H.post i (D7 (by simp [Eu,D6,ha]))
   ·intro s i
    rw [C1]
    split
    ·exact Ok.bnd (Ok.name i) fun w s _ i=>Ok.ok i (D7 rfl)
    ·rename_i hk
     intro v s' h
     obtain ⟨x,s1,h1,h'⟩:=Ac h
     have hx:=(R4 i _ _ h1).2
     obtain ⟨rfl,_,_,_⟩:=Ea i h1
     revert h'
     generalize hd:Gx (nxt ts s1)=dv
     cases dv with
     | false =>
       intro h'
       obtain ⟨k,s2,h2,h3⟩:=Ac h'
       cases h3
       exact ⟨(Ey i h2).1,D7 rfl⟩
     | true =>
       intro h'
       obtain ⟨hI1,hc1⟩:=Qf i (by rw [In hd];decide)
       have u1:=M0 hI1 (by rw [hc1,In hd];decide)
       refine Ok.bnd (P:=fun d=>d < 2 ^ 250) (Q:=fun e=>Gw e=true) (f:=fun d s2=>.ok (.mk 3 0 (Hq false x d) [] [],s2)) (Xp u1.1) (fun d s hd i=>Ok.ok i ?_) v s' h'
       simp only [Gw,Bool.and_eq_true]
       exact ⟨Un hx hd,rfl,rfl⟩
    ·repeat' first
      | exact Ok.ok (by assumption) (D7 rfl)
      | exact Ok.bnd (Ok.exp (by assumption) _ _) fun _ s _ i=>Ok.bnd (H.expr i) fun e s he i=>Ok.bnd (Ok.exp i _ _) fun _ s _ i=>Ok.ok i (D7 (by simp [Eu,D6,he]))
      | exact Ok.bnd (Ok.exp (by assumption) _ _) fun _ s _ i=>Ok.bnd (H.expr i) fun e s he i=>Ok.bnd (Ok.exp i _ _) fun _ s _ i=>Ok.bnd (H.expr i) fun e2 s he2 i=>Ok.bnd (Ok.exp i _ _) fun _ s _ i=>Ok.ok i (D7 (by simp [Eu,D6,he,he2]))
      | exact Ok.bnd (Ok.exp (by assumption) _ _) fun _ s _ i=>Ok.ok i (D7 rfl)
      | exact Ok.bnd (H.exprs (by assumption)) fun l s hl i=>Ok.bnd (Ok.exp i _ _) fun _ s _ i=>Ok.ok i (D7 hl)
      | (refine Ok.bnd (Ok.acc (by assumption) _) fun b s _ i=>?_
         cases b)
      | (refine Ok.bnd (Ok.exp (by assumption) _ _) fun _ s _ i=>Ok.bnd (H.exprs i) fun l s hl i=>Ok.bnd (Ok.exp i _ _) fun _ s _ i=>Ok.ok i ?_
         split
         ·simp only [Eu,D6,Bool.and_eq_true] at hl
          exact hl.2.1
         ·exact D7 hl)
      | (dsimp only;split)
   ·intro s i l s' h
    obtain ⟨u,hne,hlen⟩:=(Mi ts (n + 1)).exprs i h
    have hle:=u.1.lt
    have hl2:=u.1.le
    rw [Ed] at h
    have:=(Ok.bnd (Q:=fun l=>D6 l=true) (H.expr i) (fun e s he i=>H.more i (a:=[e]) (by simp [D6,he]))) l s' h
    exact ⟨this.1,by simp only [Eu,Bool.and_eq_true,decide_eq_true_eq];exact ⟨by omega,this.2⟩⟩
   ·intro a s i ha
    rw [Ki]
    refine Ok.bnd (Ok.acc i _) fun b s _ i=>?_
    cases b
    ·exact Ok.ok i ha
    ·exact Ok.bnd (H.expr i) fun e s he i=>H.more i (Tn ha (by simp [D6,he]))
theorem Ok.expr {ts:List Tok} {s:PS} (i:PInv ts s):Ok ts (fun e=>Gw e=true) (Hr ts s):=(okX ts _).expr i
theorem Ok.exprs {ts:List Tok} {s:PS} (i:PInv ts s):Ok ts (fun e=>Eu e=true) (Iq ts s):=(okX ts _).exprs i
end Go.LexSem
-- TIGHT
set_option maxHeartbeats 16000000
set_option maxRecDepth 8000
namespace Go.LexSem
open Go Go.V Go.Proofs Go.Num

theorem S0:∀ {a b:List Ty},Jm a=true→Jm b=true→Jm (a ++ b)=true
 | [],_,_,h=>h
 | e::a,b,h,k=>by
   simp only [Jm,Bool.and_eq_true,List.cons_append] at h ⊢
   exact ⟨h.1,S0 h.2 k⟩
theorem S1:∀ {a b:List Sm},Jo a=true→Jo b=true→Jo (a ++ b)=true
 | [],_,_,h=>h
 | e::a,b,h,k=>by
   simp only [Jo,Bool.and_eq_true,List.cons_append] at h ⊢
   exact ⟨h.1,S1 h.2 k⟩
theorem V4 {ts:List Tok}:∀ {n:Nat} {a l:List Ty} {s s':PS},PInv ts s→Ic ts n a s=.ok (l,s')→l.length + s.at_≤a.length + s'.at_
 | 0,_,_,_,_,_,h=>by simp only [Ic] at h;cases h
 | n + 1,a,l,s,s',i,h=>by
   rw [Ic] at h
   obtain ⟨b,s1,h1,h⟩:=Ac h
   have g1:=A7 i h1
   cases b
   ·cases h;have:=g1.2;omega
   ·obtain ⟨t,s2,h2,h⟩:=Ac h
    have g2:=(V9 ts n).typ g1.1 h2
    have:=V4 g2.1 h
    have a1:=g1.2
    have a2:=g2.2
    simp only [List.length_append,List.length_cons,List.length_nil] at this
    omega
structure OkTs (ts:List Tok) (n:Nat):Prop where
 typ:∀ {s},PInv ts s→Ok ts (fun t=>L9 t=true) (Gu ts n s)
 typs:∀ {a s},PInv ts s→Jm a=true→Ok ts (fun l=>Jm l=true) (Ic ts n a s)
theorem okTs (ts:List Tok):∀ n,OkTs ts n
 | 0=>by constructor <;> intros <;> simp only [Gu,Ic] <;> exact Ok.er
 | n + 1=>by
   have H:=okTs ts n
   constructor
   ·intro s i
    rw [Gu]
    refine Ok.bnd (Ok.acc i _) fun b s _ i=>?_
    cases b
    rotate_left
    ·exact Ok.ok i rfl
    refine Ok.bnd (Ok.acc i _) fun b s _ i=>?_
    cases b
    rotate_left
    ·exact Ok.ok i rfl
    refine Ok.bnd (Ok.acc i _) fun b s _ i=>?_
    cases b
    rotate_left
    ·exact Ok.ok i rfl
    refine Ok.bnd (Ok.acc i _) fun b s _ i=>?_
    cases b
    rotate_left
    ·exact Ok.bnd (Ok.exp i _ _) fun _ s _ i=>Ok.bnd (Ok.int i) fun _ s _ i=>Ok.bnd (Ok.exp i _ _) fun _ s _ i=>Ok.bnd (Ok.int i) fun _ s _ i=>Ok.bnd (Ok.exp i _ _) fun _ s _ i=>Ok.ok i rfl
    refine Ok.bnd (Ok.acc i _) fun b s _ i=>?_
    cases b
    rotate_left
    ·exact Ok.bnd (Ok.exp i _ _) fun _ s _ i=>Ok.bnd (Ok.num i) fun _ s _ i=>Ok.bnd (Ok.exp i _ _) fun _ s _ i=>Ok.bnd (H.typ i) fun t s ht i=>Ok.ok i (by simp [L9,Jm,ht])
    intro v s' h
    obtain ⟨_,s1,h1,h⟩:=Ac h
    have g1:=A6 i h1
    obtain ⟨a,s2,h2,h⟩:=Ac h
    have g2:=(V9 ts n).typ g1.1 h2
    have o2:=(H.typ g1.1 _ _ h2).2
    obtain ⟨_,s3,h3,h⟩:=Ac h
    have g3:=A6 g2.1 h3
    obtain ⟨b,s4,h4,h⟩:=Ac h
    have g4:=(V9 ts n).typ g3.1 h4
    have o4:=(H.typ g3.1 _ _ h4).2
    obtain ⟨l,s5,h5,h⟩:=Ac h
    have g5:=(V9 ts n).typs g4.1 h5
    have o5:=(H.typs g4.1 (a:=[a,b]) (by simp [Jm,o2,o4]) _ _ h5).2
    have hl:=V4 g4.1 h5
    obtain ⟨_,s6,h6,h⟩:=Ac h
    have g6:=A6 g5.1 h6
    cases h
    have a1:=g1.2
    have a2:=g2.2
    have a3:=g3.2
    have a4:=g4.2
    have l5:=g5.1.lt
    have e5:=g5.1.le
    simp only [List.length_cons,List.length_nil] at hl
    refine ⟨g6.1,?_⟩
    simp only [L9,Bool.and_eq_true,decide_eq_true_eq]
    exact ⟨by omega,o5⟩
   ·intro a s i ha
    rw [Ic]
    refine Ok.bnd (Ok.acc i _) fun b s _ i=>?_
    cases b
    ·exact Ok.ok i ha
    ·exact Ok.bnd (H.typ i) fun t s ht i=>H.typs i (S0 ha (by simp [Jm,ht]))
theorem Ok.typ {ts:List Tok} {s:PS} (i:PInv ts s):Ok ts (fun t=>L9 t=true) (typG ts s):=(okTs ts _).typ i
theorem Zl {ts:List Tok} {s:PS} (i:PInv ts s):Ok ts (fun d=>L9 d.ty=true) (N8 ts s):=by
 rw [N8]
 exact Ok.bnd (Ok.name i) fun _ s _ i=>Ok.bnd (Ok.exp i _ _) fun _ s _ i=>Ok.bnd (Ok.typ i) fun t s ht i=>Ok.ok i ht
theorem Oa:Nn zr=true:=rfl
theorem Lo {k:Nat} {lo hi:Int} {w:List UInt8} {p q:Rt} {l:List Ex} (hp:Nn p=true) (hq:Nn q=true) (hl:Eu l=true):U7 ⟨k,lo,hi,p,q,l,w⟩=true:=by
 simp only [U7,Bool.and_eq_true];exact ⟨hp,hq,hl⟩
theorem Aaj {e:Ex} (h:Gw e=true):Eu [e]=true:=by simp [Eu,D6,h]
theorem Ok.draw {ts:List Tok} {s:PS} (i:PInv ts s):Ok ts (fun d=>U7 d=true) (Hs ts s):=by
 rw [Hs]
 refine Ok.bnd (Ok.acc i _) fun b s _ i=>?_
 cases b
 ·refine Ok.bnd (P:=fun d=>U7 d=true) ?_ fun d s hd i=>Ok.bnd (Ok.exp i _ _) fun _ s _ i=>Ok.ok i hd
  rw [Ow]
  repeat' first
   | exact Ok.er
   | exact Ok.bnd (Ok.exp (by assumption) _ _) fun _ s _ i=>Ok.bnd (Ok.expr i) fun e s he i=>Ok.ok i (Lo Oa Oa (Aaj he))
   | exact Ok.bnd (Ok.exp (by assumption) _ _) fun _ s _ i=>Ok.bnd (Ok.int i) fun _ s _ i=>Ok.bnd (Ok.exp i _ _) fun _ s _ i=>Ok.bnd (Ok.int i) fun _ s _ i=>Ok.ok i (Lo Oa Oa rfl)
   | exact Ok.bnd (Ok.exp (by assumption) _ _) fun _ s _ i=>Ok.bnd (Ok.int i) fun _ s _ i=>Ok.bnd (Ok.exp i _ _) fun _ s _ i=>Ok.bnd (Ok.exprs i) fun l s hl i=>Ok.ok i (Lo Oa Oa hl)
   | exact Ok.bnd (Ok.exp (by assumption) _ _) fun _ s _ i=>Ok.bnd (Ok.num i) fun _ s _ i=>Ok.bnd (Ok.exp i _ _) fun _ s _ i=>Ok.bnd (Ok.expr i) fun e s he i=>Ok.ok i (Lo Oa Oa (Aaj he))
   | exact Ok.bnd (Ok.exp (by assumption) _ _) fun _ s _ i=>Ok.bnd (Vh i) fun q s hq i=>Ok.ok i (Lo hq Oa rfl)
   | exact Ok.bnd (Ok.exp (by assumption) _ _) fun _ s _ i=>Ok.bnd (Vh i) fun q s hq i=>Ok.bnd (Ok.exp i _ _) fun _ s _ i=>Ok.bnd (Vh i) fun q2 s hq2 i=>Ok.ok i (Lo hq hq2 rfl)
   | exact Ok.bnd (Ok.exp (by assumption) _ _) fun _ s _ i=>Ok.bnd (Ok.num i) fun _ s _ i=>Ok.bnd (Ok.exp i _ _) fun _ s _ i=>Ok.bnd (Ok.num i) fun _ s _ i=>Ok.ok i (Lo Oa Oa rfl)
   | (refine Ok.bnd (Ok.acc (by assumption) _) fun b s _ i=>?_
      cases b)
 ·exact Ok.bnd (Ok.name i) fun _ s _ i=>Ok.ok i (Lo Oa Oa rfl)
theorem Mr {ts:List Tok} {stop:List UInt8}:∀ {n:Nat} {a l:List Sm} {s s':PS},PInv ts s→Ek ts stop n a s=.ok (l,s')→l.length + s.at_≤a.length + s'.at_
 | 0,_,_,_,_,_,h=>by simp only [Ek] at h;cases h
 | n + 1,a,l,s,s',i,h=>by
   rw [Ek] at h
   split at h
   ·cases h;omega
   ·obtain ⟨t,s2,h2,h⟩:=Ac h
    have g2:=(Sg ts n).stmt i h2
    have:=Mr g2.1 h
    have a2:=g2.2
    simp only [List.length_append,List.length_cons,List.length_nil] at this
    omega
theorem zeOk:Gw ze=true:=rfl
theorem Tw:U7 zd=true:=rfl
theorem Jd {k:Nat} {w f:List UInt8} {i:Int} {e:Ex} {al:List Ex} {d:Dr} {th el:List Sm} (he:Gw e=true) (ha:Eu al=true) (hd:U7 d=true) (ht:Kg th=true) (hl:Kg el=true):smOk (.mk k w f i e al d th el)=true:=by
 simp only [Kg,Bool.and_eq_true] at ht hl
 simp only [smOk,Bool.and_eq_true]
 exact ⟨he,ha,hd,ht,hl⟩
structure OkS (ts:List Tok) (n:Nat):Prop where
 stmt:∀ {s},PInv ts s→Ok ts (fun e=>smOk e=true) (E4 ts n s)
 body:∀ {s},PInv ts s→Ok ts (fun l=>Kg l=true) (Gz ts n s)
 stmts:∀ {stop a s},PInv ts s→Jo a=true→Ok ts (fun l=>Jo l=true) (Ek ts stop n a s)
theorem okS (ts:List Tok):∀ n,OkS ts n
 | 0=>by constructor <;> intros <;> simp only [E4,Gz,Ek] <;> exact Ok.er
 | n + 1=>by
   have H:=okS ts n
   have n0:Eu []=true:=rfl
   have m0:Kg []=true:=rfl
   constructor
   ·intro s i
    rw [E4]
    refine Ok.bnd (Ok.acc i _) fun b s _ i=>?_
    cases b
    rotate_left
    ·refine Ok.bnd (Ok.expr i) fun e s he i=>Ok.bnd (H.body i) fun th s ht i=>Ok.bnd (Ok.acc i _) fun b s _ i=>?_
     cases b
     ·exact Ok.ok i (Jd he n0 Tw ht m0)
     ·exact Ok.bnd (H.body i) fun el s hl i=>Ok.ok i (Jd he n0 Tw ht hl)
    refine Ok.bnd (Ok.acc i _) fun b s _ i=>?_
    cases b
    rotate_left
    ·exact Ok.bnd (Ok.num i) fun _ s _ i=>Ok.bnd (H.body i) fun th s ht i=>Ok.ok i (Jd zeOk n0 Tw ht m0)
    refine Ok.bnd (Ok.acc i _) fun b s _ i=>?_
    cases b
    rotate_left
    ·exact Ok.bnd (Ok.expr i) fun e s he i=>Ok.bnd (H.body i) fun th s ht i=>Ok.ok i (Jd he n0 Tw ht m0)
    refine Ok.bnd (Ok.acc i _) fun b s _ i=>?_
    cases b
    rotate_left
    ·exact Ok.bnd (Ok.expr i) fun e s he i=>Ok.bnd (Ok.exp i _ _) fun _ s _ i=>Ok.ok i (Jd he n0 Tw m0 m0)
    refine Ok.bnd (Ok.acc i _) fun b s _ i=>?_
    cases b
    rotate_left
    ·exact Ok.bnd (Ok.expr i) fun e s he i=>Ok.bnd (Ok.exp i _ _) fun _ s _ i=>Ok.ok i (Jd he n0 Tw m0 m0)
    refine Ok.bnd (Ok.name i) fun w s _ i=>Ok.bnd (Ok.acc i _) fun b s _ i=>?_
    cases b
    rotate_left
    ·exact Ok.bnd (Ok.draw i) fun d s hd i=>Ok.bnd (Ok.exp i _ _) fun _ s _ i=>Ok.ok i (Jd zeOk n0 hd m0 m0)
    refine Ok.bnd (Ok.exp i _ _) fun _ s _ i=>?_
    split
    ·refine Ok.bnd (Ok.name i) fun w s _ i=>Ok.bnd (Ok.exp i _ _) fun _ s _ i=>?_
     split
     ·exact Ok.bnd (Ok.exp i _ _) fun _ s _ i=>Ok.bnd (Ok.exp i _ _) fun _ s _ i=>Ok.ok i (Jd zeOk n0 Tw m0 m0)
     ·exact Ok.bnd (Ok.exprs i) fun l s hl i=>Ok.bnd (Ok.exp i _ _) fun _ s _ i=>Ok.bnd (Ok.exp i _ _) fun _ s _ i=>Ok.ok i (Jd zeOk hl Tw m0 m0)
    ·exact Ok.bnd (Ok.expr i) fun e s he i=>Ok.bnd (Ok.exp i _ _) fun _ s _ i=>Ok.ok i (Jd he n0 Tw m0 m0)
   ·intro s i
    rw [Gz]
    refine Ok.bnd (Ok.exp i _ _) fun _ s _ i=>?_
    intro v s' h
    obtain ⟨l,s1,h1,h⟩:=Ac h
    obtain ⟨i1,o1⟩:=H.stmts i (a:=[]) rfl _ _ h1
    have hl:=Mr i h1
    obtain ⟨_,s2,h2,h⟩:=Ac h
    cases h
    have l1:=i1.lt
    have e1:=i1.le
    refine ⟨(A6 i1 h2).1,?_⟩
    simp only [Kg,Bool.and_eq_true,decide_eq_true_eq,List.length_nil] at hl ⊢
    exact ⟨by omega,o1⟩
   ·intro stop a s i ha
    rw [Ek]
    split
    ·exact Ok.ok i ha
    ·exact Ok.bnd (H.stmt i) fun t s ht i=>H.stmts i (S1 ha (by simp [Jo,ht]))
theorem Ok.and {α:Type} {ts:List Tok} {P Q:α→Prop} {x:PR α} (h:Ok ts P x) (k:∀ v s',x=.ok (v,s')→Q v):Ok ts (fun v=>P v∧Q v) x:=fun v s' e=>⟨(h v s' e).1,(h v s' e).2,k v s' e⟩
theorem ten {ts:List Tok} {s s':PS} {n:Nat} (i:PInv ts s') (h:n + s.at_≤0 + s'.at_):n≤10000:=by
 have:=i.lt
 have:=i.le
 omega
theorem Tt {a b:List De}:((a ++ b).all fun d=>L9 d.ty)=((a.all fun d=>L9 d.ty) && (b.all fun d=>L9 d.ty)):=List.all_append
theorem Ok.vars {ts:List Tok}:∀ {n:Nat} {a:List De} {s:PS},PInv ts s→(a.all fun d=>L9 d.ty)=true→∀ l s',Kf ts n a s=.ok (l,s')→PInv ts s'∧(l.all fun d=>L9 d.ty)=true∧l.length + s.at_≤a.length + s'.at_
 | 0,_,_,_,_,_,_,h=>by simp only [Kf] at h;cases h
 | n + 1,a,s,i,ha,l,s',h=>by
   rw [Kf] at h
   obtain ⟨b,s1,h1,h⟩:=Ac h
   have g1:=A7 i h1
   have a1:=g1.2
   cases b
   ·cases h;exact ⟨g1.1,ha,by omega⟩
   ·obtain ⟨d,s2,h2,h⟩:=Ac h
    obtain ⟨_,s3,h3,h⟩:=Ac h
    have g2:=F6 g1.1 h2
    have g3:=A6 g2.1 h3
    have o2:=(Zl g1.1 _ _ h2).2
    obtain ⟨x,y,z⟩:=Ok.vars g3.1 (a:=a ++ [d]) (by rw [Tt,ha];simp [o2]) l s' h
    have a2:=g2.2
    have a3:=g3.2
    simp only [List.length_append,List.length_cons,List.length_nil] at z
    exact ⟨x,y,by omega⟩
theorem Ok.args {ts:List Tok}:∀ {n:Nat} {a:List De} {s:PS},PInv ts s→(a.all fun d=>L9 d.ty)=true→∀ l s',Gt ts n a s=.ok (l,s')→PInv ts s'∧(l.all fun d=>L9 d.ty)=true∧l.length + s.at_≤a.length + s'.at_
 | 0,_,_,_,_,_,_,h=>by simp only [Gt] at h;cases h
 | n + 1,a,s,i,ha,l,s',h=>by
   rw [Gt] at h
   obtain ⟨b,s1,h1,h⟩:=Ac h
   have g1:=A7 i h1
   have a1:=g1.2
   cases b
   ·cases h;exact ⟨g1.1,ha,by omega⟩
   ·obtain ⟨d,s2,h2,h⟩:=Ac h
    have g2:=F6 g1.1 h2
    have o2:=(Zl g1.1 _ _ h2).2
    obtain ⟨x,y,z⟩:=Ok.args g2.1 (a:=a ++ [d]) (by rw [Tt,ha];simp [o2]) l s' h
    have a2:=g2.2
    simp only [List.length_append,List.length_cons,List.length_nil] at z
    exact ⟨x,y,by omega⟩
def blOk (b:Bl):Bool:=N3 b.vars && Kg b.body
theorem Ok.block {ts:List Tok} {s:PS} (i:PInv ts s):Ok ts (fun b=>blOk b=true) (Fs ts s):=fun v s' h=>by
 unfold Fs at h
 obtain ⟨vs,s1,h1,h⟩:=Ac h
 obtain ⟨i1,o1,l1⟩:=Ok.vars i (a:=[]) rfl _ _ h1
 unfold I8 at h
 obtain ⟨l,s2,h2,h⟩:=Ac h
 obtain ⟨i2,o2⟩:=(okS ts _).stmts i1 (a:=[]) rfl _ _ h2
 have l2:=Mr i1 h2
 unfold L7 at h
 obtain ⟨_,s3,h3,h⟩:=Ac h
 obtain ⟨_,s4,h4,h⟩:=Ac h
 obtain ⟨_,s5,h5,h⟩:=Ac h
 cases h
 refine ⟨(A6 (B9 (A6 i2 h3).1 h4).1 h5).1,?_⟩
 simp only [blOk,N3,Kg,Bool.and_eq_true,decide_eq_true_eq]
 exact ⟨⟨ten i1 l1,o1⟩,ten i2 l2,o2⟩
theorem Ok.func {ts:List Tok} {s:PS} (i:PInv ts s):∀ f s',Nw ts s=.ok (f,s')→PInv ts s'∧Rx f=true∧s.at_ < s'.at_:=fun f s' h=>by
 have kk:∀ w al s,PInv ts s→N3 al=true→∀ f s',Fo ts w al s=.ok (f,s')→PInv ts s'∧Rx f=true∧s.at_ < s'.at_:=fun w al s i ha f s' h=>by
  unfold Fo at h
  obtain ⟨_,s1,h1,h⟩:=Ac h
  obtain ⟨b,s2,h2,h⟩:=Ac h
  obtain ⟨_,s3,h3,h⟩:=Ac h
  have g1:=A6 i h1
  have g2:=Fd g1.1 h2
  have g3:=A6 g2.1 h3
  have o2:=(Ok.block g1.1 _ _ h2).2
  cases h
  simp only [blOk,Bool.and_eq_true] at o2
  refine ⟨g3.1,?_,(g1.trans (g2.ge.trans g3.ge)).2⟩
  simp only [Rx,Bool.and_eq_true]
  exact ⟨ha,o2.1,o2.2⟩
 unfold Nw at h
 obtain ⟨w,s1,h1,h⟩:=Ac h
 obtain ⟨_,s2,h2,h⟩:=Ac h
 have g1:=B9 i h1
 have g2:=A6 g1.1 h2
 have a1:=g1.2
 have a2:=g2.2
 split at h
 ·obtain ⟨x,y,z⟩:=kk w [] s2 g2.1 rfl f s' h
  exact ⟨x,y,by omega⟩
 ·obtain ⟨al,s3,h3,h⟩:=Ac h
  obtain ⟨d,s4,h4,h3⟩:=Ac h3
  have g4:=F6 g2.1 h4
  have o4:=(Zl g2.1 _ _ h4).2
  obtain ⟨i3,o3,l3⟩:=Ok.args g4.1 (a:=[d]) (by simp [o4]) _ _ h3
  have l4:=i3.lt
  have e4:=i3.le
  have a4:=g4.2
  simp only [List.length_cons,List.length_nil] at l3
  obtain ⟨x,y,z⟩:=kk w al s3 i3 (by simp only [N3,Bool.and_eq_true,decide_eq_true_eq];exact ⟨by omega,o3⟩) f s' h
  refine ⟨x,y,?_⟩
  have hge:s4.at_≤s3.at_:=by
   have:∀ {n:Nat} {a l:List De} {s s':PS},PInv ts s→Gt ts n a s=.ok (l,s')→s.at_≤s'.at_:=fun {n}=>by
    induction n with
    | zero=>intro a l s s' _ h;simp only [Gt] at h;cases h
    | succ n ih =>
      intro a l s s' i h
      rw [Gt] at h
      obtain ⟨b,s1,h1,h⟩:=Ac h
      have g1:=A7 i h1
      have a1:=g1.2
      cases b
      ·cases h;exact a1
      ·obtain ⟨d,s2,h2,h⟩:=Ac h
       have g2:=F6 g1.1 h2
       have a2:=g2.2
       have:=ih g2.1 h
       omega
   exact this g4.1 h3
  omega
theorem Ok.query {ts:List Tok} {s:PS} (i:PInv ts s):∀ f s',J1 ts s=.ok (f,s')→PInv ts s'∧Rx f=true∧s.at_ < s'.at_:=fun f s' h=>by
 unfold J1 at h
 obtain ⟨w,s1,h1,h⟩:=Ac h
 obtain ⟨_,s2,h2,h⟩:=Ac h
 obtain ⟨b,s3,h3,h⟩:=Ac h
 obtain ⟨_,s4,h4,h⟩:=Ac h
 have g1:=B9 i h1
 have g2:=A6 g1.1 h2
 have g3:=Fd g2.1 h3
 have g4:=A6 g3.1 h4
 have o3:=(Ok.block g2.1 _ _ h3).2
 cases h
 simp only [blOk,Bool.and_eq_true] at o3
 refine ⟨g4.1,?_,(g1.trans (g2.ge.trans (g3.ge.trans g4.ge))).2⟩
 simp only [Rx,Bool.and_eq_true]
 exact ⟨rfl,o3.1,o3.2⟩
theorem Vi {ts:List Tok}:∀ {n:Nat} {F Q:List Fn} {s:PS},PInv ts s→F.all Rx=true→Q.all Rx=true→∀ r s',Gy ts n F Q s=.ok (r,s')→PInv ts s'∧r.1.all Rx=true∧r.2.all Rx=true∧r.1.length + s.at_≤F.length + s'.at_∧r.2.length + s.at_≤Q.length + s'.at_
 | 0,_,_,_,_,_,_,_,_,h=>by simp only [Gy] at h;cases h
 | n + 1,F,Q,s,i,hF,hQ,r,s',h=>by
   rw [Gy] at h
   obtain ⟨b,s1,h1,h⟩:=Ac h
   have g1:=A7 i h1
   have a1:=g1.2
   cases b
   ·obtain ⟨b,s2,h2,h⟩:=Ac h
    have g2:=A7 g1.1 h2
    have a2:=g2.2
    cases b
    ·cases h;exact ⟨g2.1,hF,hQ,by dsimp only;omega,by dsimp only;omega⟩
    ·obtain ⟨f,s3,h3,h⟩:=Ac h
     obtain ⟨i3,o3,a3⟩:=Ok.query g2.1 _ _ h3
     obtain ⟨x,y,z,u,v⟩:=Vi i3 hF (Q:=Q ++ [f]) (by rw [List.all_append,hQ];simp [o3]) r s' h
     simp only [List.length_append,List.length_cons,List.length_nil] at v
     exact ⟨x,y,z,by omega,by omega⟩
   ·obtain ⟨f,s3,h3,h⟩:=Ac h
    obtain ⟨i3,o3,a3⟩:=Ok.func g1.1 _ _ h3
    obtain ⟨x,y,z,u,v⟩:=Vi i3 (F:=F ++ [f]) (by rw [List.all_append,hF];simp [o3]) hQ r s' h
    simp only [List.length_append,List.length_cons,List.length_nil] at u
    exact ⟨x,y,z,by omega,by omega⟩
theorem Ok.params {ts:List Tok}:∀ {n:Nat} {a l:List (List UInt8)} {s s':PS},PInv ts s→Hw ts n a s=.ok (l,s')→PInv ts s'∧l.length + s.at_≤a.length + s'.at_
 | 0,_,_,_,_,_,h=>by simp only [Hw] at h;cases h
 | n + 1,a,l,s,s',i,h=>by
   rw [Hw] at h
   obtain ⟨b,s1,h1,h⟩:=Ac h
   have g1:=A7 i h1
   have a1:=g1.2
   cases b
   ·cases h;exact ⟨g1.1,by omega⟩
   ·obtain ⟨d,s2,h2,h⟩:=Ac h
    obtain ⟨_,s3,h3,h⟩:=Ac h
    have g2:=B9 g1.1 h2
    have g3:=A6 g2.1 h3
    obtain ⟨x,y⟩:=Ok.params g3.1 h
    have a2:=g2.2
    have a3:=g3.2
    simp only [List.length_append,List.length_cons,List.length_nil] at y
    exact ⟨x,by omega⟩
theorem prog_ok {ts:List Tok} {s s':PS} {p:Pg} (i:PInv ts s) (h:Hp ts s=.ok (p,s')):Wt p=true:=by
 unfold Hp at h
 obtain ⟨ps,s1,h1,h⟩:=Ac h
 obtain ⟨i1,l1⟩:=Ok.params i h1
 unfold Lf at h
 obtain ⟨FQ,s2,h2,h⟩:=Ac h
 obtain ⟨i2,oF,oQ,lF,lQ⟩:=Vi i1 (F:=[]) (Q:=[]) rfl rfl _ _ h2
 unfold Fr at h
 obtain ⟨b,s3,h3,h⟩:=Ac h
 obtain ⟨i3,o3⟩:=Ok.block i2 _ _ h3
 split at h
 ·cases h
 ·cases h
  simp only [blOk,Bool.and_eq_true] at o3
  simp only [Wt,Xh,Bool.and_eq_true,decide_eq_true_eq]
  exact ⟨ten i1 l1,⟨ten i2 lF,oF⟩,⟨ten i2 lQ,oQ⟩,o3.1,o3.2⟩
theorem parse_ok {s:List UInt8} {p:Pg} (h:Ew s=.ok p):Wt p=true:=by
 unfold Ew at h
 split at h
 ·cases h
 ·rename_i hc
  have hI:=(Ue (s:=s) (by simpa using hc)).1
  split at h
  ·cases h
  ·rename_i p' s' hp
   cases h
   exact prog_ok hI hp
end Go.LexSem
