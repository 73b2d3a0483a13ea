/-
 Texts joined: ParH ParI ParJ ParK ParL ParM ParN ParO.
-/
import Derived.Test.YtenieameoojbjaaGreatDoorUMI
import Derived.Test.YtenieameoojbjaaGreatDoorUMD
set_option linter.unusedVariables false
set_option linter.unusedSimpArgs false
set_option linter.loopingSimpArgs false
set_option maxHeartbeats 4000000
set_option maxRecDepth 8000
namespace Go.LexSem
open Go Go.V Go.Proofs Go.Num

/-! ### Expressions al trees -/
abbrev Rt:=Bool × Nat × Nat
inductive Ex where
 | mk (op:Nat) (int:Int) (rat:Rt) (name:List UInt8) (args:List Ex)
instance:Inhabited Ex:=⟨.mk 0 0 (false,0,0) [] []⟩
mutual
def exC:Ex→List PVal
 | .mk op i r nm al=>[.int .i64 op,.int .i64 i,.bool r.1,A8 r.2.1,A8 r.2.2,.str nm,Dv al]
def exL:List Ex→List PVal
 | []=>[]
 | e::es=>.agg (exC e)::exL es
def Dv:List Ex→PVal
 | []=>.nils
 | e::es=>.slc (.agg (exC e)::exL es)
end
def exV (e:Ex):PVal:=.agg (exC e)
theorem exV_def (e:Ex):exV e=.agg (exC e):=rfl
theorem Aak:∀ es:List Ex,exL es=es.map exV
 | []=>by simp [exL]
 | e::es=>by simp [exL,Aak es,exV]
theorem C5:Dv []=.nils:=by simp [Dv]
theorem E1 {es:List Ex} (h:es≠[]):Dv es=.slc (es.map exV):=by
 cases es with
 | nil=>exact absurd rfl h
 | cons e es=>simp [Dv,Aak,exV]
theorem D5 (op:Nat) (i:Int) (r:Rt) (nm:List UInt8) (al:List Ex):exV (.mk op i r nm al)=.agg [.int .i64 op,.int .i64 i,.bool r.1,A8 r.2.1,A8 r.2.2,.str nm,Dv al]:=by simp [exV,exC]
theorem N2 (e:Ex):(exC e).length=7:=by cases e;simp [exC]
theorem exV_len (e:Ex):(exV e).cells.length=7:=N2 e
mutual
theorem G6:∀ e:Ex,ClosedL (exC e)
 | .mk op i r nm al=>by
   have h:=Fc al
   have:ClosedL (exC (.mk op i r nm al))=True:=by simp only [exC,CL,Av,eq_true h,and_self]
   exact of_eq_true this
theorem Rz:∀ es:List Ex,ClosedL (exL es)
 | []=>by simp only [exL];exact .nil
 | e::es=>by
   simp only [exL]
   exact .cons (.agg (G6 e)) (Rz es)
theorem Fc:∀ es:List Ex,Closed (Dv es)
 | []=>by simp only [Dv];exact fun _=>rfl
 | e::es=>by
   simp only [Dv]
   exact .slc (.cons (.agg (G6 e)) (Rz es))
end
theorem Au (e:Ex):Closed (exV e):=.agg (G6 e)
theorem exV_cl (e:Ex):Closed (exV e)=True:=eq_true (Au e)
theorem exV_ren (f:Ref→Ref) (e:Ex):ren f (exV e)=exV e:=Au e f
theorem exsV_cl (es:List Ex):Closed (Dv es)=True:=eq_true (Fc es)
theorem exsV_ren (f:Ref→Ref) (es:List Ex):ren f (Dv es)=Dv es:=Fc es f
theorem N1 (es:List Ex):ClosedL (es.map exV):=ClosedL.map (fun e=>Au e) es
theorem Ry (f:Ref→Ref) (es:List Ex):Ba f (es.map exV)=es.map exV:=N1 es f

/-! ### What the parser computes of expressions -/
abbrev PR (α:Type):=Except Er (α × PS)
/-- One step behind the other. -/
def bnd {α β:Type} (x:PR α) (f:α→PS→PR β):PR β :=
 match x with
 | .error e=>.error e
 | .ok (v,s)=>f v s
theorem Ay {α β:Type} (v:α) (s:PS) (f:α→PS→PR β):bnd (.ok (v,s)) f=f v s:=rfl
theorem F8 {α β:Type} (e:Er) (f:α→PS→PR β):bnd (.error e) f=.error e:=rfl
theorem Ae {α β γ:Type} (x:PR α) (f:α→PS→PR β) (g:β→PS→PR γ):bnd (bnd x f) g=bnd x fun a s=>bnd (f a s) g:=by
 rcases x with e | ⟨a,s⟩ <;> rfl
theorem Ac {α β:Type} {x:PR α} {f:α→PS→PR β} {v:β} {s':PS} (h:bnd x f=.ok (v,s')):∃ a s1,x=.ok (a,s1)∧f a s1=.ok (v,s'):=by
 unfold bnd at h
 split at h
 ·cases h
 ·exact ⟨_,_,rfl,h⟩
def zr:Rt:=(false,0,0)
def exN (op:Nat) (al:List Ex):Ex:=.mk op 0 zr [] al
/-- The operators of a level. -/
def lvs (l:Nat):List (List UInt8 × Nat) :=
 match l with
 | 0=>[([124,124],7)]
 | 1=>[([38,38],6)]
 | 2=>[([43],12),([45],13)]
 | _=>[([42],14)]
def Yx (l:Nat) (t:Tok):Option Nat:=if t.1=4 then (lvs l).lookup t.2.1 else none
def Gx (t:Tok):Bool:=decide (t.1=4) && decide (t.2.1=[47])
def Jq:Er:=((0,0),0)
def goS (s:PS):PS:=⟨s.at_ + 1,s.opn⟩
mutual
def Eg (ts:List Tok):Nat→PS→PR Ex
 | 0,_=>.error Jq
 | n + 1,s=>bnd (Ch ts n 0 s) fun e s1=>bnd (Ak ts [63] s1) fun b s2=>match b with
   | false=>.ok (e,s2)
   | true=>bnd (Eg ts n s2) fun y s3=>bnd (Ah ts [[58]] s3) fun _ s4=>bnd (Eg ts n s4) fun z s5=>.ok (exN 15 [e,y,z],s5)
def Ch (ts:List Tok):Nat→Nat→PS→PR Ex
 | 0,_,_=>.error Jq
 | n + 1,l,s=>bnd (B4 ts n l s) fun e s1=>Fw ts n l e s1
def Fw (ts:List Tok):Nat→Nat→Ex→PS→PR Ex
 | 0,_,_,_=>.error Jq
 | n + 1,l,e,s=>match Yx l (cur ts s) with
   | none=>.ok (e,s)
   | some op=>bnd (B4 ts n l (goS s)) fun a s2=>Fw ts n l (exN op [e,a]) s2
def B4 (ts:List Tok):Nat→Nat→PS→PR Ex
 | 0,_,_=>.error Jq
 | n + 1,l,s=>if l=1 then Km ts n s else if l=3 then D0 ts n s else Ch ts n (l + 1) s
def Km (ts:List Tok):Nat→PS→PR Ex
 | 0,_=>.error Jq
 | n + 1,s=>bnd (Ch ts n 2 s) fun a s1=>bnd (Ak ts [61,61] s1) fun b s2=>match b with
   | true=>bnd (Ch ts n 2 s2) fun c s3=>.ok (exN 8 [a,c],s3)
   | false=>bnd (Ak ts [33,61] s2) fun b s2=>match b with
     | true=>bnd (Ch ts n 2 s2) fun c s3=>.ok (exN 5 [exN 8 [a,c]],s3)
     | false=>bnd (Ak ts [60] s2) fun b s2=>match b with
       | true=>bnd (Ch ts n 2 s2) fun c s3=>.ok (exN 9 [a,c],s3)
       | false=>bnd (Ak ts [60,61] s2) fun b s2=>match b with
         | true=>bnd (Ch ts n 2 s2) fun c s3=>.ok (exN 10 [a,c],s3)
         | false=>bnd (Ak ts [62] s2) fun b s2=>match b with
           | true=>bnd (Ch ts n 2 s2) fun c s3=>.ok (exN 9 [c,a],s3)
           | false=>bnd (Ak ts [62,61] s2) fun b s2=>match b with
             | true=>bnd (Ch ts n 2 s2) fun c s3=>.ok (exN 10 [c,a],s3)
             | false=>.ok (a,s2)
def D0 (ts:List Tok):Nat→PS→PR Ex
 | 0,_=>.error Jq
 | n + 1,s=>bnd (Ak ts [33] s) fun b s1=>match b with
   | true=>bnd (D0 ts n s1) fun e s2=>.ok (exN 5 [e],s2)
   | false=>bnd (Ak ts [45] s1) fun b s1=>match b with
     | true=>bnd (D0 ts n s1) fun e s2=>.ok (exN 11 [e],s2)
     | false=>bnd (C1 ts n s1) fun e s2=>Jp ts n e s2
def Jp (ts:List Tok):Nat→Ex→PS→PR Ex
 | 0,_,_=>.error Jq
 | n + 1,e,s=>bnd (Ak ts [46] s) fun b s1=>match b with
   | true=>bnd (Bu ts s1) fun k s2=>Jp ts n (.mk 17 k zr [] [e]) s2
   | false=>bnd (Ak ts [91] s1) fun b s1=>match b with
     | true=>bnd (Eg ts n s1) fun i s2=>bnd (Ah ts [[93]] s2) fun _ s3=>Jp ts n (exN 21 [e,i]) s3
     | false=>.ok (e,s1)
def C1 (ts:List Tok):Nat→PS→PR Ex
 | 0,_=>.error Jq
 | n + 1,s=>match (cur ts s).1 with
   | 1=>bnd (C2 ts s) fun x s1=>.ok (.mk 4 0 zr x [],s1)
   | 2=>bnd (E9 ts s) fun x s1=>match Gx (nxt ts s1) with
     | false=>bnd (Bu ts s1) fun k s2=>.ok (.mk 2 k zr [] [],s2)
     | true=>bnd (Gs ts (goS (goS s1))) fun d s2=>.ok (.mk 3 0 (Hq false x d) [] [],s2)
   | _=>bnd (Ak ts [116,114,117,101] s) fun b s1=>match b with
     | true=>.ok (.mk 1 1 zr [] [],s1)
     | false=>bnd (Ak ts [102,97,108,115,101] s1) fun b s1=>match b with
       | true=>.ok (.mk 1 0 zr [] [],s1)
       | false=>bnd (Ak ts [108,101,110] s1) fun b s1=>match b with
         | true=>bnd (Ah ts [[40]] s1) fun _ s2=>bnd (Eg ts n s2) fun e s3=>bnd (Ah ts [[41]] s3) fun _ s4=>.ok (exN 20 [e],s4)
         | false=>bnd (Ak ts [112,117,115,104] s1) fun b s1=>match b with
           | true=>bnd (Ah ts [[40]] s1) fun _ s2=>bnd (Eg ts n s2) fun l s3=>bnd (Ah ts [[44]] s3) fun _ s4=>bnd (Eg ts n s4) fun e s5=>bnd (Ah ts [[41]] s5) fun _ s6=>.ok (exN 19 [l,e],s6)
           | false=>bnd (Ak ts [91] s1) fun b s1=>match b with
             | true=>match isP ts s1 [93] with
               | true=>bnd (Ah ts [[93]] s1) fun _ s2=>.ok (exN 18 [],s2)
               | false=>bnd (Ed ts n s1) fun l s2=>bnd (Ah ts [[93]] s2) fun _ s3=>.ok (exN 18 l,s3)
             | false=>bnd (Ah ts [[40]] s1) fun _ s2=>bnd (Ed ts n s2) fun l s3=>bnd (Ah ts [[41]] s3) fun _ s4=>.ok (match l with
               | [e]=>e
               | _=>exN 16 l,s4)
def Ed (ts:List Tok):Nat→PS→PR (List Ex)
 | 0,_=>.error Jq
 | n + 1,s=>bnd (Eg ts n s) fun e s1=>Ki ts n [e] s1
def Ki (ts:List Tok):Nat→List Ex→PS→PR (List Ex)
 | 0,_,_=>.error Jq
 | n + 1,acc,s=>bnd (Ak ts [44] s) fun b s1=>match b with
   | false=>.ok (acc,s1)
   | true=>bnd (Eg ts n s1) fun e s2=>Ki ts n (acc ++ [e]) s2
end
end Go.LexSem
set_option maxHeartbeats 4000000
set_option maxRecDepth 8000
namespace Go.LexSem
open Go Go.V Go.Proofs Go.Num

/-! ### Whatever is read, the parser is further on -/
def Up (ts:List Tok) (s s':PS):Prop:=PInv ts s'∧s.at_ < s'.at_
def Ge (ts:List Tok) (s s':PS):Prop:=PInv ts s'∧s.at_≤s'.at_
theorem Up.ge {ts:List Tok} {s s':PS} (h:Up ts s s'):Ge ts s s':=⟨h.1,Nat.le_of_lt h.2⟩
theorem Up.trans {ts:List Tok} {a b c:PS} (h:Up ts a b) (k:Ge ts b c):Up ts a c:=⟨k.1,Nat.lt_of_lt_of_le h.2 k.2⟩
theorem Ge.trans {ts:List Tok} {a b c:PS} (h:Ge ts a b) (k:Ge ts b c):Ge ts a c:=⟨k.1,Nat.le_trans h.2 k.2⟩
theorem Ge.up {ts:List Tok} {a b c:PS} (h:Ge ts a b) (k:Up ts b c):Up ts a c:=⟨k.1,Nat.lt_of_le_of_lt h.2 k.2⟩
theorem Ge.refl {ts:List Tok} {s:PS} (h:PInv ts s):Ge ts s s:=⟨h,Nat.le_refl _⟩
theorem A7 {ts:List Tok} {t:List UInt8} {s s':PS} {b:Bool} (h:PInv ts s) (hx:Ak ts t s=.ok (b,s')):Ge ts s s':=⟨(Dx h hx).1,(Dx h hx).2.1⟩
theorem Bm {ts:List Tok} {t:List UInt8} {s s':PS} (h:PInv ts s) (hx:Ak ts t s=.ok (true,s')):Up ts s s':=⟨(Dx h hx).1,by have:=(Dx h hx).2.2 rfl;omega⟩
theorem A6 {ts:List Tok} {t:List UInt8} {l:List (List UInt8)} {s s':PS} {u:Unit} (h:PInv ts s) (hx:Ah ts (t::l) s=.ok (u,s')):Up ts s s':=⟨(Lm h hx).1,by have:=(Lm h hx).2;simp at this;omega⟩
/-! ### Calls of the program's reader, what is carried in hand -/
theorem bnd_err {α β:Type} {x:PR β} {y:PR α} {f:α→PS→PR β} {e:Er} (hx:x=bnd y f) (he:y=.error e):x=.error e:=by rw [hx,he];rfl
theorem bnd_go {α β:Type} {x:PR β} {y:PR α} {f:α→PS→PR β} {v:α} {s:PS} (hx:x=bnd y f) (he:y=.ok (v,s)):x=f v s:=by rw [hx,he];rfl
theorem Za {α:Type} {ts:List Tok} {s:PS} {x:Except Er (α × PS)} {enc:α→PVal} {σ:St} {e:Er} (hx:x=.error e) (hd:σ.d=[]) (ho:σ.o=[Bq ts s]):σ.d=[]∧EndsIn σ (Py e) fun p st=>POut ts x enc (.pan p) st :=
 PSem.fails (fn:=Tryz.f63) hx hd ho
theorem Af {α β:Type} {g:FuncId} {args args':List PVal} {σ:St} {K KP:PVal→St→Prop} {u:TagK K KP} {p:Ref} {ts:List Tok} {s:PS} {y:PR α} {x:PR β} {f:α→PS→PR β} {enc:α→PVal} (hx:x=bnd y f) (spec:PSem g args ts s y enc)
  (hca:ClosedL args) (hcl:∀ v,Closed (enc v)) (hok:∀ v s1,y=.ok (v,s1)→x=f v s1→K (enc v) (A1 σ p (Bq ts s1)))
  (ha:args'=.ptr p 0 0::args:=by rfl) (hb:Ao σ.o σ.l p=some (Bq ts s):=by rfl) (he:∀ e s1,x=.error e→KP (Py e) (A1 σ p (Bq ts s1)):=by intro _ _ h;intros;exact Za h rfl rfl):CallX C g args' σ K KP u :=
 CallX.mk (B1 spec hb ha hca hcl (fun v s1 h=>hok v s1 h (bnd_go hx h)) fun e s1 h=>he e s1 (bnd_err hx h))
theorem CallX.acc {β:Type} {args':List PVal} {σ:St} {K KP:PVal→St→Prop} {u:TagK K KP} {p:Ref} {ts:List Tok} {s:PS} {t:List UInt8} {x:PR β} {f:Bool→PS→PR β} (hx:x=bnd (Ak ts t s) f) (i:PInv ts s)
  (hok:∀ b s1,Ak ts t s=.ok (b,s1)→x=f b s1→Ge ts s s1→PInv ts s1→K (.bool b) (A1 σ p (Bq ts s1)))
  (ha:args'=[.ptr p 0 0,.str t]:=by rfl) (hb:Ao σ.o σ.l p=some (Bq ts s):=by rfl) (he:∀ e s1,x=.error e→KP (Py e) (A1 σ p (Bq ts s1)):=by intro _ _ h;intros;exact Za h rfl rfl):CallX C 63 args' σ K KP u :=
 Af hx (Iu ts s i t) (by simp only [CL,and_self]) (fun v=>by simp only [CL]) (fun v s1 h k=>hok v s1 h k (A7 i h) (A7 i h).1) ha hb he
theorem CallX.exp {β:Type} {args':List PVal} {σ:St} {K KP:PVal→St→Prop} {u:TagK K KP} {p:Ref} {ts:List Tok} {s:PS} {t:List UInt8} {l:List (List UInt8)} {x:PR β} {f:Unit→PS→PR β} (hx:x=bnd (Ah ts (t::l) s) f) (i:PInv ts s)
  (hok:∀ v s1,Ah ts (t::l) s=.ok (v,s1)→x=f v s1→Up ts s s1→PInv ts s1→K (.tuple []) (A1 σ p (Bq ts s1)))
  (hl:l.length≤999:=by decide) (ha:args'=[.ptr p 0 0,.slc ((t::l).map .str)]:=by rfl) (hb:Ao σ.o σ.l p=some (Bq ts s):=by rfl) (he:∀ e s1,x=.error e→KP (Py e) (A1 σ p (Bq ts s1)):=by intro _ _ h;intros;exact Za h rfl rfl):CallX C 65 args' σ K KP u :=
 Af (enc:=fun _=>.tuple []) hx (Zd ts (t::l) s i (by rw [List.length_cons];omega)) (by
  have:∀ m:List (List UInt8),ClosedL (m.map PVal.str):=fun m=>by
   induction m with
   | nil=>simp only [CL,List.map_nil]
   | cons a m ih=>simp only [CL,List.map_cons,and_self,ih]
  simp only [CL,this,and_self]) (fun v=>by simp only [CL]) (fun v s1 h k=>hok v s1 h k (A6 i h) (A6 i h).1) ha hb he
theorem Ey {ts:List Tok} {s s':PS} {v:Nat} (h:PInv ts s) (hx:Bu ts s=.ok (v,s')):Up ts s s':=⟨(I3 h hx).1,by have:=(I3 h hx).2.1;omega⟩
theorem B9 {ts:List Tok} {s s':PS} {v:List UInt8} (h:PInv ts s) (hx:C2 ts s=.ok (v,s')):Up ts s s':=⟨(Th h hx).1,by have:=(Th h hx).2;omega⟩
theorem M0 {ts:List Tok} {s:PS} (h:PInv ts s) (hk:(cur ts s).1≠5):Up ts s (goS s):=⟨h.go hk (by omega) (by omega),by simp [goS]⟩
theorem Qf {ts:List Tok} {s:PS} (h:PInv ts s) (hk:(nxt ts s).1≠5):PInv ts (goS s)∧cur ts (goS s)=nxt ts s:=by
 have hlt:=h.lt
 have hc:¬ ts.length - 1≤s.at_ + 1∨s.at_ + 1 < ts.length:=by
  rcases Nat.lt_or_ge (s.at_ + 1) ts.length with h' | h'
  ·exact .inr h'
  ·refine absurd ?_ hk
   unfold nxt
   rw [Nat.min_eq_right (by omega)]
   exact h.fin
 have hlt2:s.at_ + 1 < ts.length:=by omega
 have o1:=h.o1
 have o2:=h.o2
 refine ⟨⟨hlt2,h.le,by simp only [goS];omega,by simp only [goS];omega,h.fin,h.num⟩,?_⟩
 unfold cur nxt goS
 rw [Nat.min_eq_left (by omega)]
theorem In {t:Tok} (h:Gx t=true):t.1=4:=by
 simp [Gx] at h;exact h.1
theorem Tf {l:Nat} {t:Tok} {op:Nat} (h:Yx l t=some op):t.1=4:=by
 unfold Yx at h
 split at h
 ·assumption
 ·cases h
structure XInv (ts:List Tok) (n:Nat):Prop where
 expr:∀ {s e s'},PInv ts s→Eg ts n s=.ok (e,s')→Up ts s s'
 left:∀ {l s e s'},PInv ts s→Ch ts n l s=.ok (e,s')→Up ts s s'
 loop:∀ {l a s e s'},PInv ts s→Fw ts n l a s=.ok (e,s')→Ge ts s s'
 operand:∀ {l s e s'},PInv ts s→B4 ts n l s=.ok (e,s')→Up ts s s'
 cmp:∀ {s e s'},PInv ts s→Km ts n s=.ok (e,s')→Up ts s s'
 unary:∀ {s e s'},PInv ts s→D0 ts n s=.ok (e,s')→Up ts s s'
 post:∀ {a s e s'},PInv ts s→Jp ts n a s=.ok (e,s')→Ge ts s s'
 primary:∀ {s e s'},PInv ts s→C1 ts n s=.ok (e,s')→Up ts s s'
 exprs:∀ {s e s'},PInv ts s→Ed ts n s=.ok (e,s')→Up ts s s'∧e≠[]∧e.length≤s'.at_ - s.at_
 more:∀ {a s e s'},PInv ts s→Ki ts n a s=.ok (e,s')→Ge ts s s'∧(a≠[]→e≠[])∧e.length≤a.length + (s'.at_ - s.at_)
theorem Mi (ts:List Tok):∀ n,XInv ts n
 | 0=>by
   constructor <;> intros <;> rename_i h <;> simp only [Eg,Ch,Fw,B4,Km,D0,Jp,C1,Ed,Ki] at h <;> cases h
 | n + 1=>by
   have H:=Mi ts n
   constructor
   ·intro s e s' hI h
    rw [Eg] at h
    obtain ⟨a,s1,h1,h⟩:=Ac h
    obtain ⟨b,s2,h2,h⟩:=Ac h
    have u1:=H.left hI h1
    have u2:=A7 u1.1 h2
    cases b
    ·cases h;exact u1.trans u2
    ·obtain ⟨y,s3,h3,h⟩:=Ac h
     obtain ⟨_,s4,h4,h⟩:=Ac h
     obtain ⟨z,s5,h5,h⟩:=Ac h
     have u3:=H.expr u2.1 h3
     have u4:=A6 u3.1 h4
     have u5:=H.expr u4.1 h5
     cases h
     exact u1.trans (u2.trans (u3.trans (u4.trans u5.ge).ge).ge)
   ·intro l s e s' hI h
    rw [Ch] at h
    obtain ⟨a,s1,h1,h⟩:=Ac h
    have u1:=H.operand hI h1
    exact u1.trans (H.loop u1.1 h)
   ·intro l a s e s' hI h
    rw [Fw] at h
    cases ho:Yx l (cur ts s) with
    | none=>rw [ho] at h;cases h;exact Ge.refl hI
    | some op =>
      rw [ho] at h
      dsimp only at h
      have u0:=M0 hI (by rw [Tf ho];decide)
      obtain ⟨b,s1,h1,h⟩:=Ac h
      have u1:=H.operand u0.1 h1
      exact (u0.trans (u1.trans (H.loop u1.1 h)).ge).ge
   ·intro l s e s' hI h
    rw [B4] at h
    split at h
    ·exact H.cmp hI h
    ·split at h
     ·exact H.unary hI h
     ·exact H.left hI h
   ·intro s e s' hI h
    rw [Km] at h
    obtain ⟨a,s1,h1,h⟩:=Ac h
    have u1:=H.left hI h1
    refine u1.trans ?_
    replace hI:=u1.1
    have go:∀ {s1 s2:PS} {t:List UInt8} {f:Ex→Ex} {e:Ex} {s':PS},PInv ts s1→Ak ts t s1=.ok (true,s2)→bnd (Ch ts n 2 s2) (fun c s3=>.ok (f c,s3))=.ok (e,s')→Ge ts s1 s':=fun hI h2 h=>by
     obtain ⟨c,s3,h3,h⟩:=Ac h
     cases h
     have u2:=Bm hI h2
     exact (u2.trans (H.left u2.1 h3).ge).ge
    obtain ⟨b,s2,h2,h⟩:=Ac h
    cases b
    rotate_left
    ·exact go (f:=fun c=>exN 8 [a,c]) hI h2 h
    refine (A7 hI h2).trans ?_
    replace hI:=(A7 hI h2).1
    obtain ⟨b,s3,h2,h⟩:=Ac h
    cases b
    rotate_left
    ·exact go (f:=fun c=>exN 5 [exN 8 [a,c]]) hI h2 h
    refine (A7 hI h2).trans ?_
    replace hI:=(A7 hI h2).1
    obtain ⟨b,s4,h2,h⟩:=Ac h
    cases b
    rotate_left
    ·exact go (f:=fun c=>exN 9 [a,c]) hI h2 h
    refine (A7 hI h2).trans ?_
    replace hI:=(A7 hI h2).1
    obtain ⟨b,s5,h2,h⟩:=Ac h
    cases b
    rotate_left
    ·exact go (f:=fun c=>exN 10 [a,c]) hI h2 h
    refine (A7 hI h2).trans ?_
    replace hI:=(A7 hI h2).1
    obtain ⟨b,s6,h2,h⟩:=Ac h
    cases b
    rotate_left
    ·exact go (f:=fun c=>exN 9 [c,a]) hI h2 h
    refine (A7 hI h2).trans ?_
    replace hI:=(A7 hI h2).1
    obtain ⟨b,s7,h2,h⟩:=Ac h
    cases b
    rotate_left
    ·exact go (f:=fun c=>exN 10 [c,a]) hI h2 h
    cases h
    exact A7 hI h2
   ·intro s e s' hI h
    rw [D0] at h
    obtain ⟨b,s1,h1,h⟩:=Ac h
    have u1:=A7 hI h1
    cases b
    ·obtain ⟨b,s2,h2,h⟩:=Ac h
     have u2:=A7 u1.1 h2
     cases b
     ·obtain ⟨a,s3,h3,h⟩:=Ac h
      have u3:=H.primary u2.1 h3
      exact u1.up (u2.up (u3.trans (H.post u3.1 h)))
     ·obtain ⟨a,s3,h3,h⟩:=Ac h
      cases h
      exact u1.up (u2.up (H.unary u2.1 h3))
    ·obtain ⟨a,s3,h3,h⟩:=Ac h
     cases h
     exact u1.up (H.unary u1.1 h3)
   ·intro a s e s' hI h
    rw [Jp] at h
    obtain ⟨b,s1,h1,h⟩:=Ac h
    have u1:=A7 hI h1
    cases b
    ·obtain ⟨b,s2,h2,h⟩:=Ac h
     have u2:=A7 u1.1 h2
     cases b
     ·cases h;exact u1.trans u2
     ·obtain ⟨i,s3,h3,h⟩:=Ac h
      obtain ⟨_,s4,h4,h⟩:=Ac h
      have u3:=H.expr u2.1 h3
      have u4:=A6 u3.1 h4
      exact u1.trans (u2.trans (u3.ge.trans (u4.ge.trans (H.post u4.1 h))))
    ·obtain ⟨k,s2,h2,h⟩:=Ac h
     have u2:=Ey u1.1 h2
     exact u1.trans (u2.ge.trans (H.post u2.1 h))
   ·intro s e s' hI h
    rw [C1] at h
    split at h
    ·obtain ⟨x,s1,h1,h⟩:=Ac h
     cases h
     exact B9 hI h1
    ·obtain ⟨x,s1,h1,h'⟩:=Ac h
     clear h
     obtain ⟨rfl,hk,_,_⟩:=Ea hI h1
     split at h'
     ·obtain ⟨k,s2,h2,h⟩:=Ac h'
      cases h
      exact Ey hI h2
     ·rename_i hd
      obtain ⟨d,s2,h2,h⟩:=Ac h'
      cases h
      obtain ⟨hI1,hc1⟩:=Qf hI (by rw [In hd];decide)
      have u1:=M0 hI1 (by rw [hc1,In hd];decide)
      obtain ⟨hI3,ha,_⟩:=F4 u1.1 h2
      exact ⟨hI3,by simp only [goS] at ha;omega⟩
    ·obtain ⟨b,s1,h1,h⟩:=Ac h
     cases b
     rotate_left
     ·cases h;exact Bm hI h1
     refine (A7 hI h1).up ?_
     replace hI:=(A7 hI h1).1
     obtain ⟨b,s2,h1,h⟩:=Ac h
     cases b
     rotate_left
     ·cases h;exact Bm hI h1
     refine (A7 hI h1).up ?_
     replace hI:=(A7 hI h1).1
     obtain ⟨b,s3,h1,h⟩:=Ac h
     cases b
     rotate_left
     ·obtain ⟨_,s4,h4,h⟩:=Ac h
      obtain ⟨y,s5,h5,h⟩:=Ac h
      obtain ⟨_,s6,h6,h⟩:=Ac h
      cases h
      have u1:=Bm hI h1
      have u4:=A6 u1.1 h4
      have u5:=H.expr u4.1 h5
      exact u1.trans (u4.ge.trans (u5.ge.trans (A6 u5.1 h6).ge))
     refine (A7 hI h1).up ?_
     replace hI:=(A7 hI h1).1
     obtain ⟨b,s4,h1,h⟩:=Ac h
     cases b
     rotate_left
     ·obtain ⟨_,s4,h4,h⟩:=Ac h
      obtain ⟨y,s5,h5,h⟩:=Ac h
      obtain ⟨_,s6,h6,h⟩:=Ac h
      obtain ⟨_,s7,h7,h⟩:=Ac h
      obtain ⟨_,s8,h8,h⟩:=Ac h
      cases h
      have u1:=Bm hI h1
      have u4:=A6 u1.1 h4
      have u5:=H.expr u4.1 h5
      have u6:=A6 u5.1 h6
      have u7:=H.expr u6.1 h7
      exact u1.trans (u4.ge.trans (u5.ge.trans (u6.ge.trans (u7.ge.trans (A6 u7.1 h8).ge))))
     refine (A7 hI h1).up ?_
     replace hI:=(A7 hI h1).1
     obtain ⟨b,s5,h1,h⟩:=Ac h
     cases b
     rotate_left
     ·have u1:=Bm hI h1
      dsimp only at h
      split at h
      ·obtain ⟨_,s6,h6,h⟩:=Ac h
       cases h
       exact u1.trans (A6 u1.1 h6).ge
      ·obtain ⟨l,s6,h6,h⟩:=Ac h
       obtain ⟨_,s7,h7,h⟩:=Ac h
       cases h
       have u2:=(H.exprs u1.1 h6).1
       exact u1.trans (u2.ge.trans (A6 u2.1 h7).ge)
     refine (A7 hI h1).up ?_
     replace hI:=(A7 hI h1).1
     obtain ⟨_,s6,h6,h⟩:=Ac h
     obtain ⟨l,s7,h7,h⟩:=Ac h
     obtain ⟨_,s8,h8,h⟩:=Ac h
     cases h
     have u1:=A6 hI h6
     have u2:=(H.exprs u1.1 h7).1
     exact u1.trans (u2.ge.trans (A6 u2.1 h8).ge)
   ·intro s e s' hI h
    rw [Ed] at h
    obtain ⟨a,s1,h1,h⟩:=Ac h
    have u1:=H.expr hI h1
    obtain ⟨u2,h2,h3⟩:=H.more u1.1 h
    refine ⟨u1.trans u2,h2 (by simp),?_⟩
    have:=u1.2
    have:=u2.2
    simp at h3
    omega
   ·intro a s e s' hI h
    rw [Ki] at h
    obtain ⟨b,s1,h1,h⟩:=Ac h
    have u1:=A7 hI h1
    cases b
    ·cases h;exact ⟨u1,fun h=>h,Nat.le_add_right _ _⟩
    ·obtain ⟨x,s2,h2,h⟩:=Ac h
     have u2:=H.expr u1.1 h2
     obtain ⟨u3,h3,h4⟩:=H.more u2.1 h
     refine ⟨u1.trans (u2.ge.trans u3),fun _=>h3 (by simp),?_⟩
     have:=u1.2
     have:=u2.2
     have:=u3.2
     simp at h4
     omega
end Go.LexSem
set_option maxHeartbeats 4000000
set_option maxRecDepth 8000
namespace Go.LexSem
open Go Go.V Go.Proofs Go.Num

theorem exC_clL (e:Ex):ClosedL (exC e)=True:=eq_true (G6 e)
theorem exC_ren (f:Ref→Ref) (e:Ex):Ba f (exC e)=exC e:=G6 e f
/-- What is closed of the parser's values. -/
theorem PCL:(∀ e,Closed (exV e)=True)∧(∀ e,ClosedL (exC e)=True)∧(∀ es,Closed (Dv es)=True)∧(∀ n,Closed (nv n)=True)∧(∀ n,Closed (A8 n)=True)∧(∀ es:List Ex,ClosedL (es.map exV)=True) :=
 ⟨exV_cl,exC_clL,exsV_cl,Ar,Av,fun es=>eq_true (N1 es)⟩
theorem PRN:(∀ f e,Ba f (exC e)=exC e)∧(∀ f es,ren f (Dv es)=Dv es)∧(∀ f n,ren f (nv n)=nv n)∧(∀ f n,ren f (A8 n)=A8 n)∧(∀ f (es:List Ex),Ba f (es.map exV)=es.map exV)∧(∀ f ts s,Cu f (Bq ts s)=Bq ts s) :=
 ⟨exC_ren,exsV_ren,Ik,fun f n=>of_eq_true (Av n) f,Ry,Es⟩
theorem XS:(∀ e,exV e=.agg (exC e))∧(∀ e,(exC e).length=7)∧(∀ e,List.take 7 (exC e)=exC e)∧(∀ e,List.drop 7 (exC e)=[])∧(∀ cs,(PVal.agg cs).solid=true) :=
 ⟨exV_def,N2,fun e=>List.take_of_length_le (by rw [N2];exact Nat.le_refl _),fun e=>List.drop_of_length_le (by rw [N2];exact Nat.le_refl _),fun _=>rfl⟩
theorem I5 (op:Nat) (l:List Ex):exV (exN op l)=.agg [.int .i64 op,.int .i64 0,.bool false,.nils,.nils,.str [],Dv l]:=by
 rw [exN,D5];simp [zr,A8]
theorem Dj (op:Nat) (a b:Ex):FSem C 171 [.int .i64 op,exV a,exV b] [] fun r st=>r=.ret (exV (exN op [a,b]))∧st=[]:=by
 rw [I5,E1 (by simp)]
 refine FSem.en 12 Tryz.func171 ?_
 simp only [Aj]
 refine WC.rs fun K hK=>?_
 simp only [↓EJ,FY,simprocAttr,XS]
 refine hK _ ?_;clear hK K
 refine A2 [3] fun K hK=>?_
 simp only [↓EJ,FY,simprocAttr,EZ,XS]
 refine hK _ (Aa [6] ?_);clear hK K
 refine WC.ret ?_
 simp only [↓EJ,FY,simprocAttr,EQ,EF,Tryz.results171]
 refine EndsIn.plain (by simp only [CL,PCL,and_self]) (fun k hk=>by simp at hk) ⟨by simp [XS.1],rfl⟩
/-! ### The induction -/
def rem (ts:List Tok) (s:PS):Nat:=ts.length - s.at_
theorem Up.rem {ts:List Tok} {s s':PS} (h:Up ts s s'):rem ts s' + 1≤rem ts s:=by
 have:=h.1.lt
 have:=h.2
 unfold LexSem.rem
 omega
theorem Ge.rem {ts:List Tok} {s s':PS} (h:Ge ts s s'):rem ts s'≤rem ts s:=by
 have:=h.2
 unfold LexSem.rem
 omega
structure PAll (ts:List Tok) (n:Nat):Prop where
 expr:∀ s,PInv ts s→40 * rem ts s + 35≤n→PSem 125 [] ts s (Eg ts n s) exV
 left:∀ l s,l≤3→PInv ts s→40 * rem ts s + 34 - 8 * l≤n→PSem 146 [.int .i64 (l:Nat)] ts s (Ch ts n l s) exV
 operand:∀ l s,l≤3→PInv ts s→40 * rem ts s + 33 - 8 * l≤n→PSem 170 [.int .i64 (l:Nat)] ts s (B4 ts n l s) exV
 cmp:∀ s,PInv ts s→40 * rem ts s + 22≤n→PSem 187 [] ts s (Km ts n s) exV
 unary:∀ s,PInv ts s→40 * rem ts s + 5≤n→PSem 188 [] ts s (D0 ts n s) exV
 primary:∀ s,PInv ts s→40 * rem ts s + 4≤n→PSem 199 [] ts s (C1 ts n s) exV
 exprs:∀ s,PInv ts s→40 * rem ts s + 36≤n→PSem 129 [] ts s (Ed ts n s) Dv
theorem expr_step (ts:List Tok) (n:Nat) (H:PAll ts n) (s:PS) (i:PInv ts s) (hn:40 * rem ts s + 35≤n + 1):PSem 125 [] ts s (Eg ts (n + 1) s) exV:=by
 have X:=Mi ts n
 obtain ⟨x,hx⟩:∃ x,x=Eg ts (n + 1) s:=⟨_,rfl⟩
 rw [←hx]
 rw [Eg] at hx
 unfold PSem
 refine FSem.en 22 Tryz.func125 ?_
 simp only [Aj]
 refine WC.go ?_
 refine WC.rs fun K hK=>?_
 simp only [↓EJ,FY,simprocAttr]
 refine Af hx (H.left 0 s (by omega) i (by omega)) (by simp only [CL,PCL,and_self]) (fun v=>by simp only [CL,PCL,and_self]) fun e s1 h1 hx=>?_
 have g1:=X.left i h1
 have i1:=g1.1
 have r1:=g1.rem
 simp only [↓EJ,FY,simprocAttr,XS]
 refine hK _ ?_;clear hK K
 refine Am fun K1 hK1=>?_
 refine WC.rs fun K hK=>?_
 simp only [↓EJ,FY,simprocAttr]
 refine CallX.acc hx i1 fun b2 s2 h2 hx g2 i2=>?_
 have r2:=g2.rem
 simp only [↓EJ,FY,simprocAttr]
 refine hK _ ?_;clear hK K
 refine WC.cond rfl (fun h=>?_) fun h=>?_
 ·obtain rfl:b2=false:=by simpa using h
  dsimp only at hx
  refine WC.rs fun K hK=>?_
  simp only [↓EJ,FY,simprocAttr,XS]
  refine hK _ (Aa [0,2,3,4] ?_);clear hK K
  refine WC.ret ?_
  simp only [↓EJ,FY,simprocAttr,EQ,EF,Tryz.results125,XS]
  exact PSem.done (fn:=Tryz.f125) (s:=s2) (v:=e) hx rfl (of_eq_true (by simp only [CL,PCL,and_self])) rfl
 ·obtain rfl:b2=true:=by simpa using h
  dsimp only at hx
  refine WC.skip (hK1 _ ?_)
  refine WC.rs fun K hK=>?_
  simp only [↓EJ,FY,simprocAttr]
  refine Af hx (H.expr s2 i2 (by omega)) (by simp only [CL,PCL,and_self]) (fun v=>by simp only [CL,PCL,and_self]) fun y s3 h3 hx=>?_
  have g3:=X.expr i2 h3
  have i3:=g3.1
  have r3:=g3.rem
  simp only [↓EJ,FY,simprocAttr,XS]
  refine hK _ ?_;clear hK K
  refine A2 [1] fun K hK=>?_
  simp only [↓EJ,FY,simprocAttr,EZ]
  refine CallX.exp hx i3 fun u4 s4 h4 hx g4 i4=>?_
  have r4:=g4.rem
  simp only [↓EJ,FY,simprocAttr,EZ]
  refine hK _ ?_;clear hK K
  refine WC.dg [⟨0,0,true,[]⟩,⟨1,0,true,[]⟩,⟨2,0,false,[]⟩,⟨3,1,false,[0,1]⟩,⟨4,2,false,[]⟩,⟨5,0,false,[]⟩,⟨6,1,false,[]⟩] [0,0,0,4,15,31,63] fun K hK=>?_
  simp only [↓EJ,FY,simprocAttr,XS]
  refine Af hx (H.expr s4 i4 (by omega)) (by simp only [CL,PCL,and_self]) (fun v=>by simp only [CL,PCL,and_self]) fun z s5 h5 hx=>?_
  have g5:=X.expr i4 h5
  have i5:=g5.1
  simp only [↓EJ,FY,simprocAttr,XS]
  refine hK _ (Aa [2] ?_);clear hK K
  refine WC.ret ?_
  simp only [↓EJ,FY,simprocAttr,EQ,EF,Tryz.results125,XS]
  exact PSem.done (fn:=Tryz.f125) (s:=s5) (v:=(exN 15 [e,y,z])) hx rfl (of_eq_true (by simp only [CL,PCL,and_self])) rfl
end Go.LexSem
set_option maxHeartbeats 4000000
set_option maxRecDepth 8000
namespace Go.LexSem
open Go Go.V Go.Proofs Go.Num

/-! ### The levels as a table -/
def lvK (l:Nat):List PVal:=(lvs l).map fun x=>.str x.1
def lvV (l:Nat):List PVal:=(lvs l).map fun x=>.int .i64 (x.2:Nat)
theorem lv_all (l:Nat):J4 (lvK l)=true:=by
 unfold lvK lvs
 split <;> decide
theorem Uz (t:List UInt8):∀ m:List (List UInt8 × Nat),Gj t (m.map fun x=>.str x.1)=(m.lookup t).isSome ∧
  Gi t (.int .i64 0) (m.map fun x=>.str x.1) (m.map fun x=>.int .i64 (x.2:Nat))=.int .i64 ((m.lookup t).getD 0:Nat)
 | []=>⟨rfl,rfl⟩
 | (k,v)::m=>by
   obtain ⟨h1,h2⟩:=Uz t m
   simp only [List.map_cons,Gj,Gi,isK,h1,h2,List.lookup_cons]
   by_cases e:t=k
   ·subst e;simp
   ·have:(t == k)=false:=by simpa using e
    simp [e,this]
theorem lv_gi {l:Nat} (h:l≤3):gi [PVal.fmap [.str [124,124]] [.int .i64 7],.fmap [.str [38,38]] [.int .i64 6],.fmap [.str [43],.str [45]] [.int .i64 12,.int .i64 13],.fmap [.str [42]] [.int .i64 14]] l=.fmap (lvK l) (lvV l):=by
 match l,h with
 | 0,_=>rfl
 | 1,_=>rfl
 | 2,_=>rfl
 | 3,_=>rfl
theorem lv_B (l:Nat) (t:List UInt8):Gj t (lvK l)=((lvs l).lookup t).isSome:=(Uz t (lvs l)).1
theorem lv_R (l:Nat) (t:List UInt8):Gi t (.int .i64 0) (lvK l) (lvV l)=.int .i64 (((lvs l).lookup t).getD 0:Nat):=(Uz t (lvs l)).2
theorem R1 (ks vs:List PVal):(PVal.fmap ks vs).cells=[.fmap ks vs]:=rfl
theorem w3b:IntKind.wrap .i64 3=3:=by decide
theorem w3:IntKind.wrap .i64 (((4:Nat):Int) - 1)=3:=by decide
theorem G2:C.G 2=some [levelsV]:=rfl
theorem Uu (ts:List Tok) (n:Nat) (H:PAll ts n) (l:Nat) (hl:l≤3) (s:PS) (i:PInv ts s) (hn:40 * rem ts s + 33 - 8 * l≤n + 1):PSem 170 [.int .i64 (l:Nat)] ts s (B4 ts (n + 1) l s) exV:=by
 have X:=Mi ts n
 obtain ⟨x,hx⟩:∃ x,x=B4 ts (n + 1) l s:=⟨_,rfl⟩
 rw [←hx]
 rw [B4] at hx
 replace hx:x=bnd (if l=1 then Km ts n s else if l=3 then D0 ts n s else Ch ts n (l + 1) s) (fun e s1=>.ok (e,s1)):=by
  rw [hx]
  generalize (if l=1 then Km ts n s else if l=3 then D0 ts n s else Ch ts n (l + 1) s)=y
  rcases y with e | ⟨v,s⟩ <;> rfl
 unfold PSem
 refine FSem.en 21 Tryz.func170 ?_
 simp only [Aj]
 refine WC.go ?_
 refine Am fun K1 hK1=>?_
 refine WC.go ?_
 refine WC.b1 ?_
 refine WC.go ?_
 refine WC.cond rfl (fun h=>?_) fun h=>?_
 ·have h1:l=1:=by simp at h;omega
  rw [if_pos h1] at hx
  refine WC.rs fun K hK=>?_
  simp only [↓EJ,FY,simprocAttr]
  refine Af hx (H.cmp s i (by omega)) (by simp only [CL,PCL,and_self]) (fun v=>by simp only [CL,PCL,and_self]) fun e s1 h1 hx=>?_
  have g1:=X.cmp i h1
  have i1:=g1.1
  simp only [↓EJ,FY,simprocAttr,XS]
  refine hK _ ?_;clear hK K
  refine WC.ret ?_
  simp only [↓EJ,FY,simprocAttr,EQ,EF,Tryz.results170,XS]
  exact PSem.done (fn:=Tryz.f170) (s:=s1) (v:=e) hx rfl (of_eq_true (by simp only [CL,PCL,and_self])) rfl
 ·have h1:l≠1:=by simp at h;omega
  rw [if_neg h1] at hx
  refine WC.rs fun K hK=>?_
  simp only [↓EJ,FY,simprocAttr,G2,levelsV]
  refine hK _ (Aa [0,1,4,10] ?_);clear hK K
  refine WC.cond rfl (fun h=>?_) fun h=>?_
  ·have h3:l=3:=by (try simp only [w3] at h);(try simp only [w3b] at h);simp at h;omega
   rw [if_pos h3] at hx
   refine WC.rs fun K hK=>?_
   simp only [↓EJ,FY,simprocAttr]
   refine Af hx (H.unary s i (by omega)) (by simp only [CL,PCL,and_self]) (fun v=>by simp only [CL,PCL,and_self]) fun e s1 h1 hx=>?_
   have g1:=X.unary i h1
   have i1:=g1.1
   simp only [↓EJ,FY,simprocAttr,XS]
   refine hK _ ?_;clear hK K
   refine WC.ret ?_
   simp only [↓EJ,FY,simprocAttr,EQ,EF,Tryz.results170,XS]
   exact PSem.done (fn:=Tryz.f170) (s:=s1) (v:=e) hx rfl (of_eq_true (by simp only [CL,PCL,and_self])) rfl
  ·have h3:l≠3:=by (try simp only [w3] at h);(try simp only [w3b] at h);simp at h;omega
   rw [if_neg h3] at hx
   refine WC.skip (hK1 _ ?_)
   refine WC.rs fun K hK=>?_
   simp (disch:=omega) only [↓EJ,FY,simprocAttr,w64,Bh]
   refine Af hx (H.left (l + 1) s (by omega) i (by omega)) (by simp only [CL,PCL,and_self]) (fun v=>by simp only [CL,PCL,and_self]) fun e s1 h1 hx=>?_
   have g1:=X.left i h1
   have i1:=g1.1
   simp only [↓EJ,FY,simprocAttr,XS]
   refine hK _ (Aa [4] ?_);clear hK K
   refine WC.ret ?_
   simp only [↓EJ,FY,simprocAttr,EQ,EF,Tryz.results170,XS]
   exact PSem.done (fn:=Tryz.f170) (s:=s1) (v:=e) hx rfl (of_eq_true (by simp only [CL,PCL,and_self])) rfl
theorem left_step (ts:List Tok) (n:Nat) (H:∀ m,m≤n→PAll ts m) (l:Nat) (hl:l≤3) (s:PS) (i:PInv ts s) (hn:40 * rem ts s + 34 - 8 * l≤n + 1):PSem 146 [.int .i64 (l:Nat)] ts s (Ch ts (n + 1) l s) exV:=by
 have X:=Mi ts n
 obtain ⟨x,hx⟩:∃ x,x=Ch ts (n + 1) l s:=⟨_,rfl⟩
 rw [←hx]
 rw [Ch] at hx
 unfold PSem
 refine FSem.en 44 Tryz.func146 ?_
 simp only [Aj]
 refine WC.go ?_
 refine WC.rs fun K hK=>?_
 simp only [↓EJ,FY,simprocAttr]
 refine Af hx ((H n (Nat.le_refl n)).operand l s hl i (by omega)) (by simp only [CL,PCL,and_self]) (fun v=>by simp only [CL,PCL,and_self]) fun e s1 h1 hx=>?_
 have g1:=X.operand i h1
 have i1:=g1.1
 have r1:=g1.rem
 simp only [↓EJ,FY,simprocAttr,XS]
 refine hK _ ?_;clear hK K
 refine WC.b1 ?_
 refine WC.loop (X:=Nat × Ex × PS) (fun x=>⟨[(5,.ptr (.l 1) 0 0),(4,.ptr (.l 0) 0 0),(0,.ptr (.o 0) 0 0),(1,.int .i64 (l:Nat))],[Bq ts x.2.2],[.row [.agg [.int .i64 0,.int .i64 0,.bool false,.nils,.nils,.str [],.nils]] 7 53,.row [.agg (exC x.2.1)] 7 53],[]⟩) (fun y=>y.1≤n∧PInv ts y.2.2∧40 * rem ts y.2.2 + 34≤y.1∧x=Fw ts y.1 l y.2.1 y.2.2) (fun x=>x.1) (n,e,s1) [0,1] ⟨Nat.le_refl _,i1,by dsimp only;omega,hx⟩ ?_ ?_
 ·exact Conv.all (by simp only [EC,simprocAttr,PRN])
 clear hx r1 g1 h1 i1 e s1
 rintro ⟨m,e,s1⟩ ⟨hm,i1,hr,hx⟩
 dsimp only at hm i1 hr hx ⊢
 obtain ⟨m,rfl⟩:∃ k,m=k + 1:=⟨m - 1,by omega⟩
 rw [Fw] at hx
 refine WC.b1 ?_
 have hz:lkq C.P 203=some (.int .i64 0):=by kernel_rfl
 refine WC.dg [⟨0,0,true,[]⟩,⟨1,0,true,[]⟩,⟨2,0,true,[]⟩,⟨3,0,true,[]⟩,⟨4,0,false,[]⟩,⟨5,1,false,[0,1,2,3]⟩,⟨6,0,false,[]⟩,⟨7,0,false,[]⟩,⟨8,0,false,[]⟩,⟨9,0,false,[]⟩,⟨10,0,false,[]⟩,⟨11,0,false,[]⟩,⟨12,0,false,[]⟩] [0,0,3,7,0,16,48,127,255,511,511,1023,4095] fun K hK=>?_
 simp only [↓EJ,FY,simprocAttr,ELk,G2,levelsV,lv_gi hl,R1,hz,lv_all,lv_B,lv_R]
 refine ⟨by omega,by omega,?_⟩
 refine CallX.mk (CallW.one (r:=.o 0) (F1 ts s1 i1) rfl (Ag ts s1) (Ag ts s1) (Cd _) (by simp [Ba,ren,A4]) ?_)
 simp only [↓EJ,FY,simprocAttr,ELk,G2,levelsV,lv_gi hl,R1,hz,lv_all,lv_B,lv_R,Bn,tkv,tk]
 refine ⟨⟨by omega,by omega⟩,?_⟩
 refine hK _ (Aa [0,1,4,5,6,7,29] ?_);clear hK K
 rw [Yx] at hx
 refine Am fun K3 hK3=>?_
 cases hlk:List.lookup (cur ts s1).2.1 (lvs l) with
 | none =>
   rw [hlk] at hx
   replace hx:x=.ok (e,s1):=by rw [hx];split <;> simp_all
   refine WC.rs fun K hK=>?_
   simp only [↓EJ,FY,simprocAttr,Option.isSome_none,Option.isSome_some,Option.getD_none,Option.getD_some,Bool.not_false,Bool.not_true]
   refine hK _ (Aa [0,1,4,5,6,7,29] ?_);clear hK K
   refine WC.cond rfl (fun h=>?_) fun h=>?_
   rotate_left
   ·simp at h
   refine WC.rs fun K hK=>?_
   simp only [↓EJ,FY,simprocAttr,XS]
   refine hK _ ?_;clear hK K
   refine WC.ret ?_
   simp only [↓EJ,FY,simprocAttr,EQ,EF,Tryz.results146,XS]
   exact PSem.done (fn:=Tryz.f146) (s:=s1) (v:=e) hx rfl (of_eq_true (by simp only [CL,PCL,and_self])) rfl
 | some op =>
   rw [hlk] at hx
   refine WC.rs fun K hK=>?_
   simp only [↓EJ,FY,simprocAttr,Option.isSome_none,Option.isSome_some,Option.getD_none,Option.getD_some,Bool.not_false,Bool.not_true]
   refine CallX.mk (CallW.one (r:=.o 0) (F1 ts s1 i1) rfl (Ag ts s1) (Ag ts s1) (Cd _) (by simp [Ba,ren,A4]) ?_)
   simp only [↓EJ,FY,simprocAttr,Bn,tkv,tk]
   refine hK _ (Aa [0,1,4,5,6,7,29] ?_);clear hK K
   refine WC.cond rfl (fun h=>?_) fun h=>?_
   ·have hk:(cur ts s1).1≠4:=by simp at h;omega
    rw [if_neg hk] at hx
    refine WC.rs fun K hK=>?_
    simp only [↓EJ,FY,simprocAttr,XS]
    refine hK _ ?_;clear hK K
    refine WC.ret ?_
    simp only [↓EJ,FY,simprocAttr,EQ,EF,Tryz.results146,XS]
    exact PSem.done (fn:=Tryz.f146) (s:=s1) (v:=e) hx rfl (of_eq_true (by simp only [CL,PCL,and_self])) rfl
   ·have hk:(cur ts s1).1=4:=by simp at h;omega
    rw [if_pos hk] at hx
    dsimp only at hx
    refine WC.skip (hK3 _ ?_)
    have hlt:=i1.lt
    have hle:=i1.le
    refine WC.rs fun K hK=>?_
    simp (disch:=omega) only [↓EJ,FY,simprocAttr,w64,Bh,Bq,E7]
    refine hK _ (Aa [0,1,4,5,6,7,29] ?_);clear hK K
    have g2:=M0 i1 (by rw [hk];decide)
    have r2:=g2.rem
    have i2:=g2.1
    have hb:Blk.row [.agg [tks ts,.int .i64 ((s1.at_:Int) + 1),.int .i64 s1.opn]] 3 93=Bq ts (goS s1):=by simp only [Bq,E7,goS,Int.natCast_add];rfl
    rw [hb]
    refine Dn [⟨0,0,true,[]⟩,⟨1,0,true,[]⟩,⟨2,0,false,[]⟩,⟨3,0,false,[]⟩,⟨4,1,false,[0,1]⟩,⟨5,1,false,[]⟩,⟨6,1,false,[]⟩] [0,0,0,0,12,31,63] ?_
    simp only [↓EJ,FY,simprocAttr,XS]
    refine Af hx ((H m (by omega)).operand l (goS s1) hl i2 (by omega)) (by simp only [CL,PCL,and_self]) (fun v=>by simp only [CL,PCL,and_self]) fun a s3 h3 hx=>?_
    have g3:=(Mi ts m).operand i2 h3
    have i3:=g3.1
    have r3:=g3.rem
    simp only [↓EJ,FY,simprocAttr,XS]
    refine CallX.mk (CallW.pure (Dj op e a) (by simp only [CL,PCL,and_self]) (by simp only [CL,PCL,and_self]) ?_)
    simp only [↓EJ,FY,simprocAttr,XS]
    try simp only [EQ,simprocAttr]
    refine ⟨(m,exN op [e,a],s3),[0,1],⟨by dsimp only;omega,i3,by dsimp only;omega,hx⟩,by dsimp only;omega,?_⟩
    exact Conv.all (by simp only [EC,simprocAttr,PRN,XS])
end Go.LexSem
set_option maxHeartbeats 8000000
set_option maxRecDepth 8000
namespace Go.LexSem
open Go Go.V Go.Proofs Go.Num

theorem cmp_step (ts:List Tok) (n:Nat) (H:PAll ts n) (s:PS) (i:PInv ts s) (hn:40 * rem ts s + 22≤n + 1):PSem 187 [] ts s (Km ts (n + 1) s) exV:=by
 have X:=Mi ts n
 obtain ⟨x,hx⟩:∃ x,x=Km ts (n + 1) s:=⟨_,rfl⟩
 rw [←hx]
 rw [Km] at hx
 unfold PSem
 refine FSem.en 51 Tryz.func187 ?_
 simp only [Aj]
 refine WC.go ?_
 refine WC.rs fun K hK=>?_
 simp only [↓EJ,FY,simprocAttr]
 refine Af hx (H.left 2 s (by omega) i (by omega)) (by simp only [CL,PCL,and_self]) (fun v=>by simp only [CL,PCL,and_self]) fun a s1 h1 hx=>?_
 have g1:=X.left i h1
 have i1:=g1.1
 have r1:=g1.rem
 simp only [↓EJ,FY,simprocAttr,XS]
 refine hK _ ?_;clear hK K
 refine WC.bs fun K0 hK0=>?_
 refine WC.rs fun K hK=>?_
 simp only [↓EJ,FY,simprocAttr]
 refine CallX.acc hx i1 fun b2 s2 h2 hx g2 i2=>?_
 have r2:=g2.rem
 simp only [↓EJ,FY,simprocAttr]
 refine hK _ ?_;clear hK K
 refine WC.cond rfl (fun h=>?_) fun h=>?_
 ·obtain rfl:b2=true:=by simpa using h
  dsimp only at hx
  refine WC.dg [⟨0,0,true,[]⟩,⟨1,0,false,[]⟩,⟨2,1,false,[0]⟩,⟨3,1,false,[]⟩,⟨4,1,false,[]⟩] [0,0,2,7,15] fun K hK=>?_
  simp only [↓EJ,FY,simprocAttr,XS]
  refine Af hx (H.left 2 s2 (by omega) i2 (by omega)) (by simp only [CL,PCL,and_self]) (fun v=>by simp only [CL,PCL,and_self]) fun c s9 h9 hx=>?_
  have g9:=X.left i2 h9
  have i9:=g9.1
  simp only [↓EJ,FY,simprocAttr,XS]
  refine CallX.mk (CallW.pure (Dj 8 a c) (by simp only [CL,PCL,and_self]) (by simp only [CL,PCL,and_self]) ?_)
  simp only [↓EJ,FY,simprocAttr,XS]
  refine hK _ (Aa [0,2,3,13,22,29,36,43] ?_);clear hK K
  refine WC.ret ?_
  simp only [↓EJ,FY,simprocAttr,EQ,EF,Tryz.results187,XS]
  exact PSem.done (fn:=Tryz.f187) (s:=s9) (v:=(exN 8 [a,c])) hx rfl (of_eq_true (by simp only [CL,PCL,and_self])) rfl
 ·obtain rfl:b2=false:=by simpa using h
  dsimp only at hx
  refine WC.rs fun K hK=>?_
  simp only [↓EJ,FY,simprocAttr]
  refine CallX.acc hx i2 fun b3 s3 h3 hx g3 i3=>?_
  have r3:=g3.rem
  simp only [↓EJ,FY,simprocAttr]
  refine hK _ ?_;clear hK K
  refine WC.cond rfl (fun h=>?_) fun h=>?_
  ·obtain rfl:b3=true:=by simpa using h
   dsimp only at hx
   refine WC.dg [⟨0,0,true,[]⟩,⟨1,0,false,[]⟩,⟨2,1,false,[0]⟩,⟨3,1,false,[]⟩,⟨4,2,false,[]⟩,⟨5,0,false,[]⟩,⟨6,1,false,[]⟩] [0,0,2,7,15,31,63] fun K hK=>?_
   simp only [↓EJ,FY,simprocAttr,XS]
   refine Af hx (H.left 2 s3 (by omega) i3 (by omega)) (by simp only [CL,PCL,and_self]) (fun v=>by simp only [CL,PCL,and_self]) fun c s9 h9 hx=>?_
   have g9:=X.left i3 h9
   have i9:=g9.1
   simp only [↓EJ,FY,simprocAttr,XS]
   refine CallX.mk (CallW.pure (Dj 8 a c) (by simp only [CL,PCL,and_self]) (by simp only [CL,PCL,and_self]) ?_)
   simp only [↓EJ,FY,simprocAttr,XS]
   refine hK _ (Aa [0,2,3,22,29,36,43] ?_);clear hK K
   refine WC.ret ?_
   simp only [↓EJ,FY,simprocAttr,EQ,EF,Tryz.results187,XS]
   exact PSem.done (fn:=Tryz.f187) (s:=s9) (v:=(exN 5 [exN 8 [a,c]])) hx rfl (of_eq_true (by simp only [CL,PCL,and_self])) rfl
  ·obtain rfl:b3=false:=by simpa using h
   dsimp only at hx
   refine WC.rs fun K hK=>?_
   simp only [↓EJ,FY,simprocAttr]
   refine CallX.acc hx i3 fun b4 s4 h4 hx g4 i4=>?_
   have r4:=g4.rem
   simp only [↓EJ,FY,simprocAttr]
   refine hK _ ?_;clear hK K
   refine WC.cond rfl (fun h=>?_) fun h=>?_
   ·obtain rfl:b4=true:=by simpa using h
    dsimp only at hx
    refine WC.dg [⟨0,0,true,[]⟩,⟨1,0,false,[]⟩,⟨2,1,false,[0]⟩,⟨3,1,false,[]⟩,⟨4,1,false,[]⟩] [0,0,2,7,15] fun K hK=>?_
    simp only [↓EJ,FY,simprocAttr,XS]
    refine Af hx (H.left 2 s4 (by omega) i4 (by omega)) (by simp only [CL,PCL,and_self]) (fun v=>by simp only [CL,PCL,and_self]) fun c s9 h9 hx=>?_
    have g9:=X.left i4 h9
    have i9:=g9.1
    simp only [↓EJ,FY,simprocAttr,XS]
    refine CallX.mk (CallW.pure (Dj 9 a c) (by simp only [CL,PCL,and_self]) (by simp only [CL,PCL,and_self]) ?_)
    simp only [↓EJ,FY,simprocAttr,XS]
    refine hK _ (Aa [0,2,3,29,36,43] ?_);clear hK K
    refine WC.ret ?_
    simp only [↓EJ,FY,simprocAttr,EQ,EF,Tryz.results187,XS]
    exact PSem.done (fn:=Tryz.f187) (s:=s9) (v:=(exN 9 [a,c])) hx rfl (of_eq_true (by simp only [CL,PCL,and_self])) rfl
   ·obtain rfl:b4=false:=by simpa using h
    dsimp only at hx
    refine WC.rs fun K hK=>?_
    simp only [↓EJ,FY,simprocAttr]
    refine CallX.acc hx i4 fun b5 s5 h5 hx g5 i5=>?_
    have r5:=g5.rem
    simp only [↓EJ,FY,simprocAttr]
    refine hK _ ?_;clear hK K
    refine WC.cond rfl (fun h=>?_) fun h=>?_
    ·obtain rfl:b5=true:=by simpa using h
     dsimp only at hx
     refine WC.dg [⟨0,0,true,[]⟩,⟨1,0,false,[]⟩,⟨2,1,false,[0]⟩,⟨3,1,false,[]⟩,⟨4,1,false,[]⟩] [0,0,2,7,15] fun K hK=>?_
     simp only [↓EJ,FY,simprocAttr,XS]
     refine Af hx (H.left 2 s5 (by omega) i5 (by omega)) (by simp only [CL,PCL,and_self]) (fun v=>by simp only [CL,PCL,and_self]) fun c s9 h9 hx=>?_
     have g9:=X.left i5 h9
     have i9:=g9.1
     simp only [↓EJ,FY,simprocAttr,XS]
     refine CallX.mk (CallW.pure (Dj 10 a c) (by simp only [CL,PCL,and_self]) (by simp only [CL,PCL,and_self]) ?_)
     simp only [↓EJ,FY,simprocAttr,XS]
     refine hK _ (Aa [0,2,3,36,43] ?_);clear hK K
     refine WC.ret ?_
     simp only [↓EJ,FY,simprocAttr,EQ,EF,Tryz.results187,XS]
     exact PSem.done (fn:=Tryz.f187) (s:=s9) (v:=(exN 10 [a,c])) hx rfl (of_eq_true (by simp only [CL,PCL,and_self])) rfl
    ·obtain rfl:b5=false:=by simpa using h
     dsimp only at hx
     refine WC.rs fun K hK=>?_
     simp only [↓EJ,FY,simprocAttr]
     refine CallX.acc hx i5 fun b6 s6 h6 hx g6 i6=>?_
     have r6:=g6.rem
     simp only [↓EJ,FY,simprocAttr]
     refine hK _ ?_;clear hK K
     refine WC.cond rfl (fun h=>?_) fun h=>?_
     ·obtain rfl:b6=true:=by simpa using h
      dsimp only at hx
      refine WC.dg [⟨0,0,false,[]⟩,⟨2,0,true,[]⟩,⟨1,1,false,[2]⟩,⟨3,1,false,[]⟩,⟨4,1,false,[]⟩] [0,1,0,7,15] fun K hK=>?_
      simp only [↓EJ,FY,simprocAttr,XS]
      refine Af hx (H.left 2 s6 (by omega) i6 (by omega)) (by simp only [CL,PCL,and_self]) (fun v=>by simp only [CL,PCL,and_self]) fun c s9 h9 hx=>?_
      have g9:=X.left i6 h9
      have i9:=g9.1
      simp only [↓EJ,FY,simprocAttr,XS]
      refine CallX.mk (CallW.pure (Dj 9 c a) (by simp only [CL,PCL,and_self]) (by simp only [CL,PCL,and_self]) ?_)
      simp only [↓EJ,FY,simprocAttr,XS]
      refine hK _ (Aa [0,2,3,43] ?_);clear hK K
      refine WC.ret ?_
      simp only [↓EJ,FY,simprocAttr,EQ,EF,Tryz.results187,XS]
      exact PSem.done (fn:=Tryz.f187) (s:=s9) (v:=(exN 9 [c,a])) hx rfl (of_eq_true (by simp only [CL,PCL,and_self])) rfl
     ·obtain rfl:b6=false:=by simpa using h
      dsimp only at hx
      refine WC.rs fun K hK=>?_
      simp only [↓EJ,FY,simprocAttr]
      refine CallX.acc hx i6 fun b7 s7 h7 hx g7 i7=>?_
      have r7:=g7.rem
      simp only [↓EJ,FY,simprocAttr]
      refine hK _ ?_;clear hK K
      refine WC.cond rfl (fun h=>?_) fun h=>?_
      ·obtain rfl:b7=true:=by simpa using h
       dsimp only at hx
       refine WC.dg [⟨0,0,false,[]⟩,⟨2,0,true,[]⟩,⟨1,1,false,[2]⟩,⟨3,1,false,[]⟩,⟨4,1,false,[]⟩] [0,1,0,7,15] fun K hK=>?_
       simp only [↓EJ,FY,simprocAttr,XS]
       refine Af hx (H.left 2 s7 (by omega) i7 (by omega)) (by simp only [CL,PCL,and_self]) (fun v=>by simp only [CL,PCL,and_self]) fun c s9 h9 hx=>?_
       have g9:=X.left i7 h9
       have i9:=g9.1
       simp only [↓EJ,FY,simprocAttr,XS]
       refine CallX.mk (CallW.pure (Dj 10 c a) (by simp only [CL,PCL,and_self]) (by simp only [CL,PCL,and_self]) ?_)
       simp only [↓EJ,FY,simprocAttr,XS]
       refine hK _ (Aa [2,3] ?_);clear hK K
       refine WC.ret ?_
       simp only [↓EJ,FY,simprocAttr,EQ,EF,Tryz.results187,XS]
       exact PSem.done (fn:=Tryz.f187) (s:=s9) (v:=(exN 10 [c,a])) hx rfl (of_eq_true (by simp only [CL,PCL,and_self])) rfl
      ·obtain rfl:b7=false:=by simpa using h
       dsimp only at hx
       refine WC.skip (hK0 _ ?_)
       refine WC.rs fun K hK=>?_
       simp only [↓EJ,FY,simprocAttr,XS]
       refine hK _ ?_;clear hK K
       refine WC.ret ?_
       simp only [↓EJ,FY,simprocAttr,EQ,EF,Tryz.results187,XS]
       exact PSem.done (fn:=Tryz.f187) (s:=s7) (v:=a) hx rfl (of_eq_true (by simp only [CL,PCL,and_self])) rfl
end Go.LexSem
set_option maxHeartbeats 8000000
set_option maxRecDepth 8000
namespace Go.LexSem
open Go Go.V Go.Proofs Go.Num

theorem Xj (k:Nat) (e:Ex):exV (.mk 17 k zr [] [e])=.agg [.int .i64 17,.int .i64 k,.bool false,.nils,.nils,.str [],.slc [.agg (exC e)]]:=by
 rw [D5,E1 (by simp)];simp [zr,A8,exV]
theorem X6 (ts:List Tok) (n:Nat) (H:∀ m,m≤n→PAll ts m) (s0:PS) (i0:PInv ts s0) (hn:40 * rem ts s0 + 5≤n + 1):PSem 188 [] ts s0 (D0 ts (n + 1) s0) exV:=by
 have X:=Mi ts n
 have Hn:=H n (Nat.le_refl n)
 obtain ⟨x,hx⟩:∃ x,x=D0 ts (n + 1) s0:=⟨_,rfl⟩
 rw [←hx]
 rw [D0] at hx
 unfold PSem
 refine FSem.en 39 Tryz.func188 ?_
 simp only [Aj]
 refine WC.go ?_
 refine WC.bs fun K0 hK0=>?_
 refine WC.rs fun K hK=>?_
 simp only [↓EJ,FY,simprocAttr]
 refine CallX.acc hx i0 fun b1 s1 h1 hx g1 i1=>?_
 have r1:=g1.rem
 simp only [↓EJ,FY,simprocAttr]
 refine hK _ ?_;clear hK K
 refine WC.cond rfl (fun h=>?_) fun h=>?_
 ·obtain rfl:b1=true:=by simpa using h
  dsimp only at hx
  refine A2 [2] fun K hK=>?_
  simp only [↓EJ,FY,simprocAttr,EZ]
  refine Af hx (Hn.unary s1 i1 (by have:=(Bm i0 h1).rem;omega)) (by simp only [CL,PCL,and_self]) (fun v=>by simp only [CL,PCL,and_self]) fun e s2 h2 hx=>?_
  have g2:=X.unary i1 h2
  have i2:=g2.1
  simp only [↓EJ,FY,simprocAttr,EZ,XS]
  refine hK _ (Aa [0,2,3,11,21,29] ?_);clear hK K
  refine WC.ret ?_
  simp only [↓EJ,FY,simprocAttr,EQ,EF,Tryz.results188,XS]
  exact PSem.done (fn:=Tryz.f188) (s:=s2) (v:=(exN 5 [e])) hx rfl (of_eq_true (by simp only [CL,PCL,and_self])) rfl
 obtain rfl:b1=false:=by simpa using h
 dsimp only at hx
 refine WC.rs fun K hK=>?_
 simp only [↓EJ,FY,simprocAttr]
 refine CallX.acc hx i1 fun b2 s2 h2 hx g2 i2=>?_
 have r2:=g2.rem
 simp only [↓EJ,FY,simprocAttr]
 refine hK _ ?_;clear hK K
 refine WC.cond rfl (fun h=>?_) fun h=>?_
 ·obtain rfl:b2=true:=by simpa using h
  dsimp only at hx
  refine A2 [2] fun K hK=>?_
  simp only [↓EJ,FY,simprocAttr,EZ]
  refine Af hx (Hn.unary s2 i2 (by have:=(Bm i1 h2).rem;omega)) (by simp only [CL,PCL,and_self]) (fun v=>by simp only [CL,PCL,and_self]) fun e s3 h3 hx=>?_
  have g3:=X.unary i2 h3
  have i3:=g3.1
  simp only [↓EJ,FY,simprocAttr,EZ,XS]
  refine hK _ (Aa [0,2,3,21,29] ?_);clear hK K
  refine WC.ret ?_
  simp only [↓EJ,FY,simprocAttr,EQ,EF,Tryz.results188,XS]
  exact PSem.done (fn:=Tryz.f188) (s:=s3) (v:=(exN 11 [e])) hx rfl (of_eq_true (by simp only [CL,PCL,and_self])) rfl
 obtain rfl:b2=false:=by simpa using h
 dsimp only at hx
 refine WC.skip (hK0 _ ?_)
 refine WC.rs fun K hK=>?_
 simp only [↓EJ,FY,simprocAttr]
 refine Af hx (Hn.primary s2 i2 (by omega)) (by simp only [CL,PCL,and_self]) (fun v=>by simp only [CL,PCL,and_self]) fun e s3 h3 hx=>?_
 have g3:=X.primary i2 h3
 have i3:=g3.1
 have r3:=g3.rem
 simp only [↓EJ,FY,simprocAttr,XS]
 refine hK _ ?_;clear hK K
 refine WC.b1 ?_
 refine WC.loop (X:=Nat × Ex × PS) (fun x=>⟨[(3,.ptr (.l 1) 0 0),(2,.ptr (.l 0) 0 0),(0,.ptr (.o 0) 0 0)],[Bq ts x.2.2],[.row [.agg [.int .i64 0,.int .i64 0,.bool false,.nils,.nils,.str [],.nils]] 7 53,.row [.agg (exC x.2.1)] 7 53],[]⟩) (fun y=>y.1≤n∧PInv ts y.2.2∧40 * rem ts y.2.2 + 4≤y.1∧x=Jp ts y.1 y.2.1 y.2.2) (fun x=>x.1) (n,e,s3) [0,1] ⟨Nat.le_refl _,i3,by dsimp only;omega,hx⟩ ?_ ?_
 ·exact Conv.all (by simp only [EC,simprocAttr,PRN])
 clear hx r1 g1 h1 i1 r2 g2 h2 i2 r3 g3 h3 i3
 rintro ⟨m,e,s1⟩ ⟨hm,i1,hr,hx⟩
 dsimp only at hm i1 hr hx ⊢
 obtain ⟨m,rfl⟩:∃ k,m=k + 1:=⟨m - 1,by omega⟩
 have Xm:=Mi ts m
 rw [Jp] at hx
 refine WC.b1 ?_
 refine WC.b1 ?_
 refine WC.rs fun K hK=>?_
 simp only [↓EJ,FY,simprocAttr]
 refine CallX.acc hx i1 fun b2 s2 h2 hx g2 i2=>?_
 have r2:=g2.rem
 simp only [↓EJ,FY,simprocAttr]
 refine hK _ ?_;clear hK K
 refine WC.cond rfl (fun h=>?_) fun h=>?_
 ·obtain rfl:b2=true:=by simpa using h
  dsimp only at hx
  refine Dn [⟨0,0,false,[]⟩,⟨2,0,true,[]⟩,⟨3,2,true,[]⟩,⟨1,1,false,[2,3]⟩,⟨4,0,false,[]⟩,⟨5,1,false,[]⟩] [0,1,0,4,15,31] ?_
  simp only [↓EJ,FY,simprocAttr,XS,EDz]

  refine Af hx (D2 ts s2 i2) (by simp only [CL,PCL,and_self]) (fun v=>by simp only [CL,PCL,and_self]) fun k s3 h3 hx=>?_
  have g3:=Ey i2 h3
  have i3:=g3.1
  have r3:=g3.rem
  simp only [↓EJ,FY,simprocAttr,XS]
  try simp only [EQ,simprocAttr]
  refine ⟨(m,.mk 17 k zr [] [e],s3),[0,1],⟨by dsimp only;omega,i3,by dsimp only;omega,hx⟩,by dsimp only;omega,?_⟩
  dsimp only
  have hp:PVal.agg (exC (.mk 17 k zr [] [e]))=.agg [.int .i64 17,.int .i64 k,.bool false,.nils,.nils,.str [],.slc [.agg (exC e)]]:=Xj k e
  rw [hp]
  exact Conv.all (by simp only [EC,simprocAttr,PRN,XS])
 obtain rfl:b2=false:=by simpa using h
 dsimp only at hx
 refine WC.rs fun K hK=>?_
 simp only [↓EJ,FY,simprocAttr]
 refine CallX.acc hx i2 fun b3 s3 h3 hx g3 i3=>?_
 have r3:=g3.rem
 simp only [↓EJ,FY,simprocAttr]
 refine hK _ (Aa [0,2,3,21,29] ?_);clear hK K
 refine WC.cond rfl (fun h=>?_) fun h=>?_
 ·obtain rfl:b3=true:=by simpa using h
  dsimp only at hx
  refine WC.dg [⟨0,0,true,[]⟩,⟨1,0,false,[]⟩,⟨2,1,false,[0]⟩,⟨3,1,false,[]⟩,⟨4,1,false,[]⟩] [0,0,2,7,15] fun K hK=>?_
  simp only [↓EJ,FY,simprocAttr,XS]
  refine Af hx ((H m (by omega)).expr s3 i3 (by have:=(Bm i2 h3).rem;omega)) (by simp only [CL,PCL,and_self]) (fun v=>by simp only [CL,PCL,and_self]) fun k s4 h4 hx=>?_
  have g4:=Xm.expr i3 h4
  have i4:=g4.1
  have r4:=g4.rem
  simp only [↓EJ,FY,simprocAttr,XS]
  refine CallX.mk (CallW.pure (Dj 21 e k) (by simp only [CL,PCL,and_self]) (by simp only [CL,PCL,and_self]) ?_)
  simp only [↓EJ,FY,simprocAttr,XS]
  refine hK _ ?_;clear hK K
  refine F9 [1] ?_
  simp only [↓EJ,FY,simprocAttr,EZ]
  refine CallX.exp hx i4 fun u5 s5 h5 hx g5 i5=>?_
  have r5:=g5.rem
  simp only [↓EJ,FY,simprocAttr,EZ]
  try simp only [EQ,simprocAttr]
  refine ⟨(m,exN 21 [e,k],s5),[0,1],⟨by dsimp only;omega,i5,by dsimp only;omega,hx⟩,by dsimp only;omega,?_⟩
  exact Conv.all (by simp only [EC,simprocAttr,PRN,XS])
 obtain rfl:b3=false:=by simpa using h
 dsimp only at hx
 refine WC.rs fun K hK=>?_
 simp only [↓EJ,FY,simprocAttr,XS]
 refine hK _ ?_;clear hK K
 refine WC.ret ?_
 simp only [↓EJ,FY,simprocAttr,EQ,EF,Tryz.results188,XS]
 exact PSem.done (fn:=Tryz.f188) (s:=s3) (v:=e) hx rfl (of_eq_true (by simp only [CL,PCL,and_self])) rfl
end Go.LexSem
set_option maxHeartbeats 8000000
set_option maxRecDepth 8000
namespace Go.LexSem
open Go Go.V Go.Proofs Go.Num

theorem Aw (f:Ref→Ref) (a b:List PVal):Ba f (a ++ b)=Ba f a ++ Ba f b:=by rw [Bw,Bw,Bw,List.map_append]
theorem Zc (ts:List Tok) (n:Nat) (H:∀ m,m≤n→PAll ts m) (s0:PS) (i0:PInv ts s0) (hn:40 * rem ts s0 + 36≤n + 1):PSem 129 [] ts s0 (Ed ts (n + 1) s0) Dv:=by
 have X:=Mi ts n
 have Hn:=H n (Nat.le_refl n)
 obtain ⟨x,hx⟩:∃ x,x=Ed ts (n + 1) s0:=⟨_,rfl⟩
 rw [←hx]
 rw [Ed] at hx
 unfold PSem
 refine FSem.en 15 Tryz.func129 ?_
 simp only [Aj]
 refine WC.go ?_
 refine WC.rs fun K hK=>?_
 simp only [↓EJ,FY,simprocAttr]
 refine Af hx (Hn.expr s0 i0 (by omega)) (by simp only [CL,PCL,and_self]) (fun v=>by simp only [CL,PCL,and_self]) fun e s1 h1 hx=>?_
 have g1:=X.expr i0 h1
 have i1:=g1.1
 have r1:=g1.rem
 simp only [↓EJ,FY,simprocAttr,XS]
 refine hK _ ?_;clear hK K
 refine WC.bs fun K0 hK0=>?_
 refine WC.loop (X:=Nat × List Ex × PS) (fun x=>⟨[(3,.ref (.l 0) 0 x.2.1.length),(0,.ptr (.o 0) 0 0)],[Bq ts x.2.2],[.row (x.2.1.map exV) 7 53],[]⟩) (fun y=>y.1≤n∧PInv ts y.2.2∧40 * rem ts y.2.2 + 1≤y.1∧y.2.1≠[]∧y.2.1.length≤y.2.2.at_∧x=Ki ts y.1 y.2.1 y.2.2) (fun x=>x.1) (n,[e],s1) [0] ⟨Nat.le_refl _,i1,by dsimp only;omega,by simp,by have:=g1.2;simp only [List.length_cons,List.length_nil];omega,hx⟩ ?_ ?_
 ·exact Conv.all (by simp only [EC,simprocAttr,PRN,XS,List.map_cons,List.map_nil,List.length_cons,List.length_nil])
 clear hx r1 g1 h1 i1 e s1
 rintro ⟨m,acc,s1⟩ ⟨hm,i1,hr,hne,hlen,hx⟩
 dsimp only at hm i1 hr hne hlen hx ⊢
 obtain ⟨m,rfl⟩:∃ k,m=k + 1:=⟨m - 1,by omega⟩
 have Xm:=Mi ts m
 have hle:=i1.le
 have hlt:=i1.lt
 rw [Ki] at hx
 refine Am fun K3 hK3=>?_
 refine WC.rs fun K hK=>?_
 simp only [↓EJ,FY,simprocAttr]
 refine CallX.acc hx i1 fun b2 s2 h2 hx g2 i2=>?_
 have r2:=g2.rem
 simp only [↓EJ,FY,simprocAttr]
 refine hK _ ?_;clear hK K
 refine WC.cond rfl (fun h=>?_) fun h=>?_
 ·obtain rfl:b2=true:=by simpa using h
  dsimp only at hx
  refine WC.skip (hK3 _ ?_)
  refine WC.b1 ?_
  refine F9 [3] ?_
  simp only [↓EJ,FY,simprocAttr,EZ]
  refine Af hx ((H m (by omega)).expr s2 i2 (by have:=(Bm i1 h2).rem;omega)) (by simp only [CL,PCL,and_self]) (fun v=>by simp only [CL,PCL,and_self]) fun e s3 h3 hx=>?_
  have g3:=Xm.expr i2 h3
  have i3:=g3.1
  have r3:=g3.rem
  have a2:=g2.2
  have a3:=g3.2
  simp only [↓EJ,FY,simprocAttr,EZ,XS]
  refine ⟨by rw [List.length_map],by omega,by omega,?_⟩
  try simp only [EQ,simprocAttr]
  refine ⟨(m,acc ++ [e],s3),[1],⟨by dsimp only;omega,i3,by dsimp only;omega,by simp,by simp only [List.length_append,List.length_cons,List.length_nil];omega,hx⟩,by dsimp only;omega,?_⟩
  exact Conv.all (by simp only [EC,simprocAttr,PRN,XS,Aw,List.map_append,List.map_cons,List.map_nil,List.length_append,List.length_cons,List.length_nil])
 ·obtain rfl:b2=false:=by simpa using h
  dsimp only at hx
  refine WC.exit (hK0 _ ?_)
  refine WC.frz 3 0 rfl rfl (by simp) ?_
  refine WC.go (Aa [0,2,3] ?_)
  refine WC.ret ?_
  simp only [↓EJ,FY,simprocAttr,EQ,EF,Tryz.results129]
  have hp:PVal.slc (List.take acc.length (List.map exV acc))=Dv acc:=by rw [E1 hne,List.take_of_length_le (by simp)]
  rw [hp]
  exact PSem.done (fn:=Tryz.f129) (s:=s2) (v:=acc) hx rfl (of_eq_true (by simp only [CL,PCL,and_self])) rfl
end Go.LexSem
set_option maxHeartbeats 16000000
set_option maxRecDepth 8000
namespace Go.LexSem
open Go Go.V Go.Proofs Go.Num

theorem Bc:(∀ l,(Dv l).solid=true)∧(∀ l,(Dv l).cells=[Dv l]):=by
 constructor <;> intro l <;> cases l <;> simp only [Dv] <;> rfl
theorem gi_0 (x:PVal) (r:List PVal):gi (x::r) 0=x:=rfl
theorem Aab {n:Nat} (h:n≠0):A8 n=nv n:=if_neg h
theorem exV_rat (x d:Nat) (hd:d≠0):exV (.mk 3 0 (Hq false x d) [] [])=.agg [.int .i64 3,.int .i64 0,.bool (false && decide (x≠0)),A8 (x / x.gcd d),nv (d / x.gcd d),.str [],.nils]:=by
 have h0:d / x.gcd d≠0:=by
  have h1:x.gcd d≤d:=Nat.gcd_le_right x (by omega)
  have h2:0 < x.gcd d:=Nat.gcd_pos_of_pos_right x (by omega)
  have:=Nat.div_pos h1 h2
  omega
 rw [D5,Hq,C5,Aab h0];rfl
theorem Us (ts:List Tok) (n:Nat) (H:PAll ts n) (s0:PS) (i0:PInv ts s0) (hn:40 * rem ts s0 + 4≤n + 1):PSem 199 [] ts s0 (C1 ts (n + 1) s0) exV:=by
 have X:=Mi ts n
 obtain ⟨x,hx⟩:∃ x,x=C1 ts (n + 1) s0:=⟨_,rfl⟩
 rw [←hx]
 rw [C1] at hx
 unfold PSem
 refine FSem.en 128 Tryz.func199 ?_
 simp only [Aj]
 refine WC.go ?_
 refine WC.rs fun K hK=>?_
 simp only [↓EJ,FY,simprocAttr]
 refine CallX.mk (CallW.one (r:=.o 0) (F1 ts s0 i0) rfl (Ag ts s0) (Ag ts s0) (Cd _) (by simp [Ba,ren,A4]) ?_)
 simp only [↓EJ,FY,simprocAttr,Bn,tkv,tk]
 refine hK _ ?_;clear hK K
 refine WC.bs fun K0 hK0=>?_
 refine WC.go ?_
 refine WC.cond rfl (fun h=>?_) fun h=>?_
 ·have hk:(cur ts s0).1=1:=by simp at h;omega
  simp only [hk] at hx
  refine WC.rs fun K hK=>?_
  simp only [↓EJ,FY,simprocAttr]
  refine Af hx (C4 ts s0 i0) (by simp only [CL,PCL,and_self]) (fun v=>by simp only [CL,PCL,and_self]) fun w s1 h1 hx=>?_
  have g1:=B9 i0 h1
  have i1:=g1.1
  simp only [↓EJ,FY,simprocAttr]
  refine hK _ (Aa [0,2,3,4,5,6,8,9,10,11,12,22,37,57,61,65,79,98,104,122] ?_);clear hK K
  refine WC.ret ?_
  simp only [↓EJ,FY,simprocAttr,EQ,EF,Tryz.results199]
  exact PSem.done (fn:=Tryz.f199) (s:=s1) (v:=(.mk 4 0 zr w [])) hx rfl (of_eq_true (by simp only [CL,PCL,and_self])) rfl
 have hk1:(cur ts s0).1≠1:=by simp at h;omega
 refine WC.go ?_
 refine WC.cond rfl (fun h=>?_) fun h=>?_
 ·have hk:(cur ts s0).1=2:=by simp at h;omega
  simp only [hk] at hx
  refine WC.rs fun K hK=>?_
  simp only [↓EJ,FY,simprocAttr]
  refine Af hx (L1 ts s0 i0) (by simp only [CL,PCL,and_self]) (fun v=>by simp only [CL,PCL,and_self]) fun w s1 h1 hx=>?_
  have g1:=(fun h=>(⟨(Ea i0 h).1 ▸ i0,Nat.le_of_eq (by rw [(Ea i0 h).1])⟩:Ge ts s0 _)) h1
  have i1:=g1.1
  have hy:=hx
  obtain ⟨rfl,_,hw,hok⟩:=Ea i0 h1
  replace hx:=hy
  simp only [↓EJ,FY,simprocAttr]
  refine hK _ (Aa [0,2,4,5,6,8,9,10,11,12,37,57,61,65,79,98,104,122] ?_);clear hK K
  refine Am fun K5 hK5=>?_
  refine WC.rs fun K hK=>?_
  simp only [↓EJ,FY,simprocAttr]
  refine CallX.mk (CallW.one (r:=.o 0) (Wz ts s1 i1) rfl (Ag ts s1) (Ag ts s1) (Cd _) (by simp [Ba,ren,A4]) ?_)
  simp only [↓EJ,FY,simprocAttr,Bn,tkv,tk]
  refine hK _ ?_;clear hK K
  have hdiv:Gx (nxt ts s1)=(decide ((nxt ts s1).1=4) && decide ((nxt ts s1).2.1=[47])):=rfl
  by_cases hk4:(nxt ts s1).1=4
  ·refine WC.rs fun K hK=>?_
   simp only [↓EJ,FY,simprocAttr,hk4,Int.cast_ofNat_Int,Bool.not_true,Bool.not_false]
   refine hK _ (Aa [0,2,4,6,8,9,10,11,12,37,57,61,65,79,98,104,122] ?_);clear hK K
   refine WC.cond rfl (fun h=>?_) fun h=>?_
   ·have ht:(nxt ts s1).2.1≠[47]:=by simpa using h
    have hdv:Gx (nxt ts s1)=false:=by rw [hdiv];simp [ht]
    simp only [hdv] at hx
    refine WC.rs fun K hK=>?_
    simp only [↓EJ,FY,simprocAttr]
    refine Af hx (D2 ts s1 i0) (by simp only [CL,PCL,and_self]) (fun v=>by simp only [CL,PCL,and_self]) fun k s2 h2 hx=>?_
    have g2:=Ey i0 h2
    have i2:=g2.1
    simp only [↓EJ,FY,simprocAttr]
    refine hK _ ?_;clear hK K
    refine WC.ret ?_
    simp only [↓EJ,FY,simprocAttr,EQ,EF,Tryz.results199]
    exact PSem.done (fn:=Tryz.f199) (s:=s2) (v:=(.mk 2 k zr [] [])) hx rfl (of_eq_true (by simp only [CL,PCL,and_self])) rfl
   ·have ht:(nxt ts s1).2.1=[47]:=by simpa using h
    have hdv:Gx (nxt ts s1)=true:=by rw [hdiv];simp [ht,hk4]
    simp only [hdv] at hx
    refine WC.skip (hK5 _ ?_)
    have hlt:=i0.lt
    have hle:=i0.le
    obtain ⟨i2,hc2⟩:=Qf i0 (by rw [hk4];decide)
    have g3:=M0 i2 (by rw [hc2,hk4];decide)
    have i3:=g3.1
    refine WC.rs fun K hK=>?_
    simp (disch:=omega) only [↓EJ,FY,simprocAttr,w64,Bh,Bq,E7]
    refine hK _ (Aa [0,2,4,6,8,9,10,11,12,57,61,65,79,98,104,122] ?_);clear hK K
    have hb:Blk.row [.agg [tks ts,.int .i64 ((s1.at_:Int) + 2),.int .i64 s1.opn]] 3 93=Bq ts (goS (goS s1)):=by
     simp only [Bq,E7,goS]
     rw [show ((s1.at_ + 1 + 1:Nat):Int)=(s1.at_:Int) + 2 by omega]
    rw [hb]
    refine WC.rs fun K hK=>?_
    simp only [↓EJ,FY,simprocAttr]
    refine Af hx (Ts ts _ i3) (by simp only [CL,PCL,and_self]) (fun v=>by simp only [CL,PCL,and_self]) fun d s4 h4 hx=>?_
    have g4:=(fun h=>(⟨(F4 i3 h).1,by have:=(F4 i3 h).2.1;omega⟩:Ge ts (goS (goS s1)) _)) h4
    have i4:=g4.1
    obtain ⟨_,_,hd0,hdk⟩:=F4 i3 h4
    have hm:=W2 false w d hok hdk
    rw [if_neg hd0] at hm
    have hv:=exV_rat w d hd0
    unfold Fb at hm
    generalize (false && decide (w≠0))=nb at hm hv
    have cn:=Av (w / w.gcd d)
    generalize A8 (w / w.gcd d)=nn at hm hv cn
    have cd:=Ar (d / w.gcd d)
    generalize nv (d / w.gcd d)=dd at hm hv cd
    simp only [↓EJ,FY,simprocAttr,XS]
    refine CallX.mk (CallW.pure hm (by simp only [CL,Ar,and_self]) (by simp only [CL,cn,cd,and_self]) ?_)
    simp only [↓EJ,FY,simprocAttr,XS]
    refine hK _ (Aa [0,2,6,8,9,10,11,12,57,61,65,79,98,104,122] ?_);clear hK K
    refine WC.rs fun K hK=>?_
    simp only [↓EJ,FY,simprocAttr,XS]
    refine hK _ ?_;clear hK K
    refine WC.ret ?_
    simp only [↓EJ,FY,simprocAttr,EQ,EF,Tryz.results199,XS]
    exact PSem.done (fn:=Tryz.f199) (s:=s4) (v:=.mk 3 0 (Hq false w d) [] []) hx hv.symm (Au _) rfl
  ·have i4:(((nxt ts s1).1:Nat):Int)=4↔False:=iff_false_intro (by omega)
   refine WC.rs fun K hK=>?_
   simp only [↓EJ,FY,simprocAttr,i4,Bool.not_true,Bool.not_false]
   refine hK _ (Aa [0,2,4,6,8,9,10,11,12,37,57,61,65,79,98,104,122] ?_);clear hK K
   refine WC.cond rfl (fun h=>?_) fun h=>?_
   rotate_left
   ·simp at h
   have hdv:Gx (nxt ts s1)=false:=by rw [hdiv];simp [hk4]
   simp only [hdv] at hx
   refine WC.rs fun K hK=>?_
   simp only [↓EJ,FY,simprocAttr]
   refine Af hx (D2 ts s1 i0) (by simp only [CL,PCL,and_self]) (fun v=>by simp only [CL,PCL,and_self]) fun k s2 h2 hx=>?_
   have g2:=Ey i0 h2
   have i2:=g2.1
   simp only [↓EJ,FY,simprocAttr]
   refine hK _ ?_;clear hK K
   refine WC.ret ?_
   simp only [↓EJ,FY,simprocAttr,EQ,EF,Tryz.results199]
   exact PSem.done (fn:=Tryz.f199) (s:=s2) (v:=(.mk 2 k zr [] [])) hx rfl (of_eq_true (by simp only [CL,PCL,and_self])) rfl
 have hk2:(cur ts s0).1≠2:=by simp at h;omega
 split at hx
 ·exact absurd ‹_› hk1
 ·exact absurd ‹_› hk2
 refine WC.rs fun K hK=>?_
 simp only [↓EJ,FY,simprocAttr]
 refine CallX.acc hx i0 fun b1 s1 h1 hx g1 i1=>?_
 have r1:=g1.rem
 simp only [↓EJ,FY,simprocAttr]
 refine hK _ ?_;clear hK K
 refine WC.cond rfl (fun h=>?_) fun h=>?_
 ·obtain rfl:b1=true:=by simpa using h
  dsimp only at hx
  have q1:=(Bm i0 h1).rem
  refine WC.rs fun K hK=>?_
  simp only [↓EJ,FY,simprocAttr,XS]
  refine hK _ (Aa [0,2,8,9,10,11,12,61,65,79,98,104,122] ?_);clear hK K
  refine WC.ret ?_
  simp only [↓EJ,FY,simprocAttr,EQ,EF,Tryz.results199,XS]
  exact PSem.done (fn:=Tryz.f199) (s:=s1) (v:=(.mk 1 1 zr [] [])) hx rfl (of_eq_true (by simp only [CL,PCL,and_self])) rfl
 obtain rfl:b1=false:=by simpa using h
 dsimp only at hx
 refine WC.rs fun K hK=>?_
 simp only [↓EJ,FY,simprocAttr]
 refine CallX.acc hx i1 fun b2 s2 h2 hx g2 i2=>?_
 have r2:=g2.rem
 simp only [↓EJ,FY,simprocAttr]
 refine hK _ ?_;clear hK K
 refine WC.cond rfl (fun h=>?_) fun h=>?_
 ·obtain rfl:b2=true:=by simpa using h
  dsimp only at hx
  have q2:=(Bm i1 h2).rem
  refine WC.rs fun K hK=>?_
  simp only [↓EJ,FY,simprocAttr,XS]
  refine hK _ ?_;clear hK K
  refine WC.ret ?_
  simp only [↓EJ,FY,simprocAttr,EQ,EF,Tryz.results199,XS]
  exact PSem.done (fn:=Tryz.f199) (s:=s2) (v:=(.mk 1 0 zr [] [])) hx rfl (of_eq_true (by simp only [CL,PCL,and_self])) rfl
 obtain rfl:b2=false:=by simpa using h
 dsimp only at hx
 refine WC.rs fun K hK=>?_
 simp only [↓EJ,FY,simprocAttr]
 refine CallX.acc hx i2 fun b3 s3 h3 hx g3 i3=>?_
 have r3:=g3.rem
 simp only [↓EJ,FY,simprocAttr]
 refine hK _ (Aa [0,2,8,9,10,11,12,65,79,98,104,122] ?_);clear hK K
 refine WC.cond rfl (fun h=>?_) fun h=>?_
 ·obtain rfl:b3=true:=by simpa using h
  dsimp only at hx
  have q3:=(Bm i2 h3).rem
  refine A2 [1] fun K hK=>?_
  simp only [↓EJ,FY,simprocAttr,EZ]
  refine CallX.exp hx i3 fun u11 s11 h11 hx g11 i11=>?_
  have r11:=g11.rem
  simp only [↓EJ,FY,simprocAttr,EZ]
  refine hK _ ?_;clear hK K
  refine A2 [2] fun K hK=>?_
  simp only [↓EJ,FY,simprocAttr,EZ]
  refine Af hx (H.expr s11 i11 (by omega)) (by simp only [CL,PCL,and_self]) (fun v=>by simp only [CL,PCL,and_self]) fun e s12 h12 hx=>?_
  have g12:=X.expr i11 h12
  have i12:=g12.1
  simp only [↓EJ,FY,simprocAttr,EZ,XS]
  refine hK _ (Aa [0,2,8,9,10,11,12,79,98,104,122] ?_);clear hK K
  refine A2 [1] fun K hK=>?_
  simp only [↓EJ,FY,simprocAttr,EZ]
  refine CallX.exp hx i12 fun u13 s13 h13 hx g13 i13=>?_
  simp only [↓EJ,FY,simprocAttr,EZ]
  refine hK _ ?_;clear hK K
  refine WC.rs fun K hK=>?_
  simp only [↓EJ,FY,simprocAttr,XS]
  refine hK _ ?_;clear hK K
  refine WC.ret ?_
  simp only [↓EJ,FY,simprocAttr,EQ,EF,Tryz.results199,XS]
  exact PSem.done (fn:=Tryz.f199) (s:=s13) (v:=(exN 20 [e])) hx rfl (of_eq_true (by simp only [CL,PCL,and_self])) rfl
 obtain rfl:b3=false:=by simpa using h
 dsimp only at hx
 refine WC.rs fun K hK=>?_
 simp only [↓EJ,FY,simprocAttr]
 refine CallX.acc hx i3 fun b4 s4 h4 hx g4 i4=>?_
 have r4:=g4.rem
 simp only [↓EJ,FY,simprocAttr]
 refine hK _ (Aa [0,2,9,10,11,12,79,98,104,122] ?_);clear hK K
 refine WC.cond rfl (fun h=>?_) fun h=>?_
 ·obtain rfl:b4=true:=by simpa using h
  dsimp only at hx
  have q4:=(Bm i3 h4).rem
  refine A2 [1] fun K hK=>?_
  simp only [↓EJ,FY,simprocAttr,EZ]
  refine CallX.exp hx i4 fun u11 s11 h11 hx g11 i11=>?_
  have r11:=g11.rem
  simp only [↓EJ,FY,simprocAttr,EZ]
  refine hK _ ?_;clear hK K
  refine WC.rs fun K hK=>?_
  simp only [↓EJ,FY,simprocAttr]
  refine Af hx (H.expr s11 i11 (by omega)) (by simp only [CL,PCL,and_self]) (fun v=>by simp only [CL,PCL,and_self]) fun e s12 h12 hx=>?_
  have g12:=X.expr i11 h12
  have i12:=g12.1
  have r12:=g12.rem
  simp only [↓EJ,FY,simprocAttr,XS]
  refine hK _ ?_;clear hK K
  refine A2 [1] fun K hK=>?_
  simp only [↓EJ,FY,simprocAttr,EZ]
  refine CallX.exp hx i12 fun u13 s13 h13 hx g13 i13=>?_
  have r13:=g13.rem
  simp only [↓EJ,FY,simprocAttr,EZ]
  refine hK _ (Aa [0,2,9,10,11,12,98,104,122] ?_);clear hK K
  refine WC.ts [(0,0),(1,0),(2,1),(3,1),(4,1),(5,1)] (.st ⟨0,0,true,[]⟩ (.st ⟨1,0,true,[]⟩ (.two ⟨2,1,false,[0]⟩ (.two ⟨3,1,false,[]⟩ (.leaf [⟨4,1,false,[0,1]⟩,⟨5,1,false,[]⟩]) ⟨4,1,false,[0,1]⟩ (.leaf [⟨3,1,false,[]⟩,⟨5,1,false,[]⟩])) ⟨4,1,false,[0,1]⟩ (.leaf [⟨2,1,false,[0]⟩,⟨3,1,false,[]⟩,⟨5,1,false,[]⟩])))) [0,0,2,7,0,31] mo (by kernel_rfl) (by simp only [EPt,EPl,List.getElem?_cons_zero,List.getElem?_cons_succ];rfl) fun K hK=>?_
  simp only [↓EJ,FY,simprocAttr,EDt,XS]
  refine ⟨?_,?_⟩
  ·refine Af hx (H.expr s13 i13 (by omega)) (by simp only [CL,PCL,and_self]) (fun v=>by simp only [CL,PCL,and_self]) fun e2 s14 h14 hx=>?_
   have g14:=X.expr i13 h14
   have i14:=g14.1
   simp only [↓EJ,FY,simprocAttr,XS]
   refine ⟨?_,?_⟩
   ·refine CallX.mk (CallW.pure (Dj 19 e e2) (by simp only [CL,PCL,and_self]) (by simp only [CL,PCL,and_self]) ?_)
    simp only [↓EJ,FY,simprocAttr,XS]
    refine hK _ ?_;clear hK K
    refine A2 [1] fun K hK=>?_
    simp only [↓EJ,FY,simprocAttr,EZ]
    refine CallX.exp hx i14 fun u15 s15 h15 hx g15 i15=>?_
    simp only [↓EJ,FY,simprocAttr,EZ]
    refine hK _ (Aa [0,2,10,11,12,98,104,122] ?_);clear hK K
    refine WC.rs fun K hK=>?_
    simp only [↓EJ,FY,simprocAttr,XS]
    refine hK _ ?_;clear hK K
    refine WC.ret ?_
    simp only [↓EJ,FY,simprocAttr,EQ,EF,Tryz.results199,XS]
    exact PSem.done (fn:=Tryz.f199) (s:=s15) (v:=(exN 19 [e,e2])) hx rfl (of_eq_true (by simp only [CL,PCL,and_self])) rfl
   ·refine CallX.mk (CallW.pure (Dj 19 e e2) (by simp only [CL,PCL,and_self]) (by simp only [CL,PCL,and_self]) ?_)
    simp only [↓EJ,FY,simprocAttr,XS]
    refine hK _ ?_;clear hK K
    refine A2 [1] fun K hK=>?_
    simp only [↓EJ,FY,simprocAttr,EZ]
    refine CallX.exp hx i14 fun u15 s15 h15 hx g15 i15=>?_
    simp only [↓EJ,FY,simprocAttr,EZ]
    refine hK _ (Aa [0,2,10,11,12,98,104,122] ?_);clear hK K
    refine WC.rs fun K hK=>?_
    simp only [↓EJ,FY,simprocAttr,XS]
    refine hK _ ?_;clear hK K
    refine WC.ret ?_
    simp only [↓EJ,FY,simprocAttr,EQ,EF,Tryz.results199,XS]
    exact PSem.done (fn:=Tryz.f199) (s:=s15) (v:=(exN 19 [e,e2])) hx rfl (of_eq_true (by simp only [CL,PCL,and_self])) rfl
  ·refine Af hx (H.expr s13 i13 (by omega)) (by simp only [CL,PCL,and_self]) (fun v=>by simp only [CL,PCL,and_self]) fun e2 s14 h14 hx=>?_
   have g14:=X.expr i13 h14
   have i14:=g14.1
   simp only [↓EJ,FY,simprocAttr,XS]
   refine CallX.mk (CallW.pure (Dj 19 e e2) (by simp only [CL,PCL,and_self]) (by simp only [CL,PCL,and_self]) ?_)
   simp only [↓EJ,FY,simprocAttr,XS]
   refine hK _ ?_;clear hK K
   refine A2 [1] fun K hK=>?_
   simp only [↓EJ,FY,simprocAttr,EZ]
   refine CallX.exp hx i14 fun u15 s15 h15 hx g15 i15=>?_
   simp only [↓EJ,FY,simprocAttr,EZ]
   refine hK _ (Aa [0,2,10,11,12,98,104,122] ?_);clear hK K
   refine WC.rs fun K hK=>?_
   simp only [↓EJ,FY,simprocAttr,XS]
   refine hK _ ?_;clear hK K
   refine WC.ret ?_
   simp only [↓EJ,FY,simprocAttr,EQ,EF,Tryz.results199,XS]
   exact PSem.done (fn:=Tryz.f199) (s:=s15) (v:=(exN 19 [e,e2])) hx rfl (of_eq_true (by simp only [CL,PCL,and_self])) rfl
 obtain rfl:b4=false:=by simpa using h
 dsimp only at hx
 refine WC.rs fun K hK=>?_
 simp only [↓EJ,FY,simprocAttr]
 refine CallX.acc hx i4 fun b5 s5 h5 hx g5 i5=>?_
 have r5:=g5.rem
 simp only [↓EJ,FY,simprocAttr]
 refine hK _ ?_;clear hK K
 refine WC.cond rfl (fun h=>?_) fun h=>?_
 ·obtain rfl:b5=true:=by simpa using h
  dsimp only at hx
  have q5:=(Bm i4 h5).rem
  refine WC.rs fun K hK=>?_
  simp only [↓EJ,FY,simprocAttr,XS]
  refine hK _ ?_;clear hK K
  refine Am fun K6 hK6=>?_
  cases hp:isP ts s5 [93] with
  | true =>
    simp only [hp] at hx
    refine WC.rs fun K hK=>?_
    simp only [↓EJ,FY,simprocAttr]
    refine CallX.mk (CallW.one (r:=.o 0) (D3 ts s5 i5 [93]) rfl (Ag ts s5) (Ag ts s5) (by simp only [CL]) (by simp [Ba,ren,A4]) ?_)
    rw [hp]
    simp only [↓EJ,FY,simprocAttr]
    refine hK _ (Aa [0,2,11,12,104,122] ?_);clear hK K
    refine WC.cond rfl (fun h=>?_) fun h=>?_
    ·simp at h
    refine WC.skip (hK6 _ ?_)
    refine A2 [1] fun K hK=>?_
    simp only [↓EJ,FY,simprocAttr,EZ]
    refine CallX.exp hx i5 fun u11 s11 h11 hx g11 i11=>?_
    simp only [↓EJ,FY,simprocAttr,EZ]
    refine hK _ ?_;clear hK K
    refine WC.rs fun K hK=>?_
    simp only [↓EJ,FY,simprocAttr,XS]
    refine hK _ ?_;clear hK K
    refine WC.ret ?_
    simp only [↓EJ,FY,simprocAttr,EQ,EF,Tryz.results199,XS]
    exact PSem.done (fn:=Tryz.f199) (s:=s11) (v:=(exN 18 [])) hx rfl (of_eq_true (by simp only [CL,PCL,and_self])) rfl
  | false =>
    simp only [hp] at hx
    refine WC.rs fun K hK=>?_
    simp only [↓EJ,FY,simprocAttr]
    refine CallX.mk (CallW.one (r:=.o 0) (D3 ts s5 i5 [93]) rfl (Ag ts s5) (Ag ts s5) (by simp only [CL]) (by simp [Ba,ren,A4]) ?_)
    rw [hp]
    simp only [↓EJ,FY,simprocAttr]
    refine hK _ (Aa [0,2,11,12,104,122] ?_);clear hK K
    refine WC.cond rfl (fun h=>?_) fun h=>?_
    rotate_left
    ·simp at h
    refine WC.r1 ?_
    simp only [↓EJ,FY,simprocAttr]
    refine Af hx (H.exprs s5 i5 (by omega)) (by simp only [CL,PCL,and_self]) (fun v=>by simp only [CL,PCL,and_self]) fun l s11 h11 hx=>?_
    have g11:=And.left <| X.exprs i5 h11
    have i11:=g11.1
    simp only [↓EJ,FY,simprocAttr,XS,Bc]
    refine hK6 _ ?_
    refine A2 [1] fun K hK=>?_
    simp only [↓EJ,FY,simprocAttr,EZ]
    refine CallX.exp hx i11 fun u12 s12 h12 hx g12 i12=>?_
    simp only [↓EJ,FY,simprocAttr,EZ]
    refine hK _ ?_;clear hK K
    refine WC.rs fun K hK=>?_
    simp only [↓EJ,FY,simprocAttr,XS]
    refine hK _ ?_;clear hK K
    refine WC.ret ?_
    simp only [↓EJ,FY,simprocAttr,EQ,EF,Tryz.results199,XS]
    exact PSem.done (fn:=Tryz.f199) (s:=s12) (v:=(exN 18 l)) hx rfl (of_eq_true (by simp only [CL,PCL,and_self])) rfl
 obtain rfl:b5=false:=by simpa using h
 dsimp only at hx
 refine WC.skip (hK0 _ ?_)
 refine A2 [1] fun K hK=>?_
 simp only [↓EJ,FY,simprocAttr,EZ]
 refine CallX.exp hx i5 fun u11 s11 h11 hx g11 i11=>?_
 have r11:=g11.rem
 simp only [↓EJ,FY,simprocAttr,EZ]
 refine hK _ (Aa [0,2,12,122] ?_);clear hK K
 refine WC.rs fun K hK=>?_
 simp only [↓EJ,FY,simprocAttr]
 refine Af hx (H.exprs s11 i11 (by omega)) (by simp only [CL,PCL,and_self]) (fun v=>by simp only [CL,PCL,and_self]) fun l s12 h12 hx=>?_
 have g12:=And.left <| X.exprs i11 h12
 have i12:=g12.1
 have hne:=(X.exprs i11 h12).2.1
 simp only [↓EJ,FY,simprocAttr,E1 hne]
 refine hK _ ?_;clear hK K
 refine A2 [1] fun K hK=>?_
 simp only [↓EJ,FY,simprocAttr,EZ]
 refine CallX.exp hx i12 fun u13 s13 h13 hx g13 i13=>?_
 simp only [↓EJ,FY,simprocAttr,EZ]
 refine hK _ ?_;clear hK K
 refine Am fun K7 hK7=>?_
 match l,hne,hx with
 | [e],_,hx =>
   refine WC.rs fun K hK=>?_
   simp only [↓EJ,FY,simprocAttr,XS,List.map_cons,List.map_nil,List.length_cons,List.length_nil]
   refine hK _ (Aa [2,12,122] ?_);clear hK K
   refine WC.cond rfl (fun h=>?_) fun h=>?_
   rotate_left
   ·simp at h
   refine WC.rs fun K hK=>?_
   simp only [↓EJ,FY,simprocAttr,XS,gi_0,List.map_cons,List.map_nil,List.length_cons,List.length_nil]
   refine hK _ ?_;clear hK K
   refine WC.ret ?_
   simp only [↓EJ,FY,simprocAttr,EQ,EF,Tryz.results199,XS]
   exact PSem.done (fn:=Tryz.f199) (s:=s13) (v:=e) hx rfl (of_eq_true (by simp only [CL,PCL,and_self])) rfl
 | e::e2::r,_,hx =>
   refine WC.rs fun K hK=>?_
   simp only [↓EJ,FY,simprocAttr,XS,List.map_cons,List.map_nil,List.length_cons,List.length_nil]
   refine hK _ ?_;clear hK K
   refine WC.cond rfl (fun h=>?_) fun h=>?_
   ·simp at h;omega
   refine WC.skip (hK7 _ ?_)
   refine WC.rs fun K hK=>?_
   simp only [↓EJ,FY,simprocAttr,XS]
   refine hK _ (Aa [2] ?_);clear hK K
   refine WC.ret ?_
   simp only [↓EJ,FY,simprocAttr,EQ,EF,Tryz.results199,XS]
   have hp:exV (exN 16 (e::e2::r))=.agg [.int .i64 16,.int .i64 0,.bool false,.nils,.nils,.str [],.slc (.agg (exC e)::.agg (exC e2)::List.map exV r)]:=by
    rw [I5,E1 (by simp)];simp [XS.1]
   exact PSem.done (fn:=Tryz.f199) (s:=s13) (v:=exN 16 (e::e2::r)) hx hp.symm (Au _) rfl
end Go.LexSem
