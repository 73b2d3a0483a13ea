/-
 Texts joined: VLit VTree VCell VDefer VPack.
-/
import Derived.Test.YtenieameoojbjaaGreatDoorUMC
import Derived.Recover
set_option linter.unusedVariables false
set_option linter.unusedSimpArgs false
set_option linter.loopingSimpArgs false
namespace Go.V
open Go
variable {C:Ctx} {n:Nat}

theorem Qo {ops:Array Oper} {Q:AEx→St→Prop} {V0:View} {K:St→Prop} {e m:Nat} (hK:∀ V σ a,Later V0 V→Rel C n V σ a→K σ→wpOps C.P ops (Kn C n V0 Q) (List.range' e m) a V.w) :
  ∀ (os:List Oper) (k:Nat) (V:View) (σ:St) (a:Act),(∀ j,j < os.length→os[j]? = ops[k + j]?)→k + os.length=e→Later V0 V→Rel C n V σ a →
  Ja C n ops.toList os σ K (fun p σ'=>Q (.pan p) σ')→wpOps C.P ops (Kn C n V0 Q) (List.range' k (os.length + m)) a V.w
 | [],k,V,σ,a,_,he,hl,hR,h=>by
   have:e=k:=by simpa using he.symm
   subst this
   simpa using hK V σ a hl hR h
 | o::os,k,V,σ,a,hk,he,hl,hR,h=>by
   have hko:ops[k]? = some o:=by simpa using (hk 0 (by simp)).symm
   have hos:∀ j,j < os.length→os[j]? = ops[k + 1 + j]? := fun j hj=>by
    have:=hk (j + 1) (by simp;omega)
    rw [show k + (j + 1)=k + 1 + j by omega] at this
    simpa using this
   have he':k + 1 + os.length=e:=by simp at he;omega
   rw [show (o::os).length + m=(os.length + m) + 1 by simp;omega]
   simp only [List.range'_succ,wpOps,hko]
   have go:wOp C o.op σ (fun p σ'=>Ja C n ops.toList os (σ'.put n o.dst p) K (fun p σ'=>Q (.pan p) σ')) (fun p σ'=>Q (.pan p) σ') →
     o.wp C.P a V.w (wpOps C.P ops (Kn C n V0 Q) (List.range' (k + 1) (os.length + m))) (Kn C n V0 Q):=fun h=>by
    refine Ls hR h ⟨fun V' σ' p v hw hp hK'=>?_,fun V' σ' p v hw hp hK'=>?_⟩
    ·exact Qo hK os (k + 1) V' _ _ hos he' (hl.trans hw.later) (Fk (hw.rel hR) hp o.dst) hK'
    ·exact ⟨V',σ',.pan p,rfl,hl.trans hw.later,hw.rel hR,⟨v,rfl,hp⟩,hK'⟩
   have skip:Ja C n ops.toList os (σ.put n o.dst (.tuple [])) K (fun p σ'=>Q (.pan p) σ') →
     wpOps C.P ops (Kn C n V0 Q) (List.range' (k + 1) (os.length + m)) (a.put o.dst undef) V.w:=fun h =>
    Qo hK os (k + 1) V _ _ hos he' hl (Fk hR (Qb V) o.dst) h
   simp only [Ja,Ft] at h
   have dst:∀ j q,yld ops.toList σ.e j=q→(∃ d,(ops[j]?).bind (·.dst)=some d∧gt σ.e d=q)∨q=.any:=fun j q hy=>by
    unfold yld at hy
    split at hy
    ·rename_i o' ho'
     have:ops[j]? = some o':=by simpa using ho'
     split at hy
     ·rename_i d hd
      exact .inl ⟨d,by simp [this,hd],hy⟩
     ·exact .inr hy.symm
    ·exact .inr hy.symm
   split at h
   ·rename_i hg
    have hw:Region.wanted o (yielded ops a.tmps)=true:=by unfold Region.wanted;simp [hg]
    rw [if_pos hw]
    exact .inl (go h)
   ·rename_i j want hg
    split at h
    ·rename_i b hy
     rcases dst j _ hy with ⟨d,hdd,hd⟩ | hn
     ·have hr:=hR.env d
      rw [hd] at hr
      generalize hv:a.tmps.getD d undef=v at hr
      cases hr
      have hwant:=Ob o ops a.tmps j want hg d b hdd hv
      rw [hwant]
      by_cases e:b=want
      ·subst e
       simp only [beq_self_eq_true,if_true]
       exact .inl (go (h.1 rfl))
      ·have:(b == want)=false:=by simpa using e
       simp only [this,Bool.false_eq_true,if_false]
       exact skip (h.2 (by cases b <;> cases want <;> simp_all))
     ·cases hn
    ·rename_i hy
     rcases dst j _ hy with ⟨d,hdd,hd⟩ | hn
     ·have hr:=hR.env d
      rw [hd] at hr
      generalize hv:a.tmps.getD d undef=v at hr
      cases hr with
      | @tuple ps vs hl _ =>
        obtain rfl:vs=#[]:=Array.eq_empty_of_size_eq_zero hl
        rw [Mk o ops a.tmps j want hg d hdd hv]
        simp only [Bool.false_eq_true,if_false]
        exact skip h
     ·cases hn
    ·exact h.elim

/-- The rows, those at the places z being literals that nobody writes. -/
def Vq (C:Ctx) (n:Nat) (all:List Oper) (K:St→Prop) (KP:PVal→St→Prop):List (List Oper × Oper)→List Oper→St→Prop
 | [],last,σ=>Ja C n all last σ K KP
 | (pre,lit)::r,last,σ=>Ja C n all pre σ (fun τ=>lit.guard=none∧Oc C lit.op τ fun q=>Vq C n all K KP r last (τ.put n lit.dst q)) KP
def Pf:List (List Oper × Oper)→List Oper→List Oper
 | [],last=>last
 | (pre,lit)::r,last=>pre ++ lit::Pf r last
theorem Ko {ops:Array Oper} {Q:AEx→St→Prop} {V0:View} (last:List Oper):∀ (cut:List (List Oper × Oper)) (k:Nat) (V:View) (σ:St) (a:Act),(∀ j,(Pf cut last)[j]? = ops[k + j]?)→Later V0 V→Rel C n V σ a →
  Vq C n ops.toList (Q .normal) (fun p σ'=>Q (.pan p) σ') cut last σ→wpOps C.P ops (Kn C n V0 Q) (List.range' k (Pf cut last).length) a V.w
 | [],k,V,σ,a,hj,hl,hR,h=>Jt last k V σ a hj hl hR h
 | (pre,lit)::r,k,V,σ,a,hj,hl,hR,h=>by
   simp only [Pf,Vq] at hj h ⊢
   have hlen:(pre ++ lit::Pf r last).length=pre.length + ((Pf r last).length + 1):=by simp
   rw [hlen]
   refine Qo (e:=k + pre.length) (fun V σ a hl hR ⟨hg,hz⟩=>?_) pre k V σ a (fun j hj'=>by rw [←hj j,List.getElem?_append_left hj']) rfl hl hR h
   rw [List.range'_succ]
   have hko:ops[k + pre.length]? = some lit:=by rw [←hj,List.getElem?_append_right (Nat.le_refl _)];simp
   obtain ⟨p,hp,hk⟩:=Qq hz
   refine H7 hko hg (S9 (z:=2) (p:=p) hR hp fun V' v hw hv=>?_)
   refine Ko last r (k + pre.length + 1) V' _ _ (fun j=>?_) (hl.trans hw.later) (Fk (hw.rel hR) hv lit.dst) hk
   have:=hj (pre.length + 1 + j)
   rw [List.getElem?_append_right (by omega),show pre.length + 1 + j - pre.length=j + 1 by omega,List.getElem?_cons_succ] at this
   rw [this];congr 1;omega

/-- A panic. -/
def pW (p:PVal) (σ:St) (KP:PVal→St→Prop):Prop :=
 match p with
 | .iface t v=>KP (.iface t v) σ
 | _=>False
theorem EPn:(∀ (C:Ctx) x σ K KP u,Do C (.panic x) σ K KP u=pW (val σ.e x) σ KP)∧(∀ t v σ KP,pW (.iface t v) σ KP=KP (.iface t v) σ) :=
 ⟨fun _ _ _ _ _ _=>rfl,fun _ _ _ _=>rfl⟩
/-- A key of a map; an assertion. -/
def lkW (z? : Option PVal) (p ix:PVal) (K:PVal→Prop):Prop :=
 match ix,p,z? with
 | .str s,.fmap ks vs,some z=>J4 ks=true∧K (.tuple [Gi s z ks vs,.bool (Gj s ks)])
 | _,_,_=>False
theorem lkW_eq (C:Ctx) (t:TypeId) (p ix:PVal) (K:PVal→Prop):Fg C t p ix true K=lkW (lkq C.P t) p ix K:=by
 unfold Fg lkW
 cases ix with
 | str s=>cases p <;> first | rfl | (dsimp only;cases lkq C.P t <;> rfl)
 | _=>rfl
def asW (conc:Bool) (z? : Option PVal) (t:TypeId) (p:PVal) (K:PVal→Prop):Prop :=
 conc=true∧match p,z? with
 | .iface d v,some z=>bif Nat.beq d t then K (.tuple [v,.bool true]) else K (.tuple [z,.bool false])
 | .niliface,some z=>K (.tuple [z,.bool false])
 | _,_=>False
theorem asW_of {C:Ctx} {t:TypeId} {p:PVal} {K:PVal→Prop} (h:asW (ccq C.P t) (tz C.P t) t p K):Ei C t p true K:=by
 obtain ⟨hc,h⟩:=h
 unfold ccq at hc
 unfold Ei
 split at hc
 ·cases hc
 ·rename_i d hne hu
  try rw [hu]
  cases d
  case interface m=>exact absurd rfl (hne m)
  all_goals
   try dsimp only
   split at h
   ·rename_i d' v z hz
    dsimp only
    cases hb:Nat.beq d' t with
    | true=>rw [hb] at h;exact h
    | false=>rw [hb] at h;rw [hz];exact ⟨rfl,h⟩
   ·rename_i z hz
    dsimp only
    rw [hz]
    exact ⟨rfl,h⟩
   ·exact h.elim
 ·cases hc
theorem assert_eq {C:Ctx} {t:TypeId} {v:PVal} {K:PVal→Prop} (hc:ccq C.P t=true):Ei C t (.iface t v) true K=K (.tuple [v,.bool true]):=by
 unfold ccq at hc
 unfold Ei
 split at hc
 ·cases hc
 ·rename_i d hne hu
  try rw [hu]
  cases d
  case interface m=>exact absurd rfl (hne m)
  all_goals
   try dsimp only
   rw [show Nat.beq t t=true from Nat.beq_refl t]
   rfl
 ·cases hc
theorem ELk:(∀ (C:Ctx) t x i σ K KP u,Do C (.lookup t x i true) σ K KP u=lkW (lkq C.P t) (val σ.e x) (val σ.e i) fun q=>K q σ) ∧
  (∀ s ks vs z K,lkW (some z) (.fmap ks vs) (.str s) K=(J4 ks=true∧K (.tuple [Gi s z ks vs,.bool (Gj s ks)]))) :=
 ⟨fun C t x i σ K KP u=>(show Do C (.lookup t x i true) σ K KP u=Fg C t (val σ.e x) (val σ.e i) true (fun q=>K q σ) from rfl).trans (lkW_eq C t _ _ _),fun _ _ _ _ _=>rfl⟩
inductive TagZ (all:List Oper) (K:St→Prop) (KP:PVal→St→Prop) (cut:List (List Oper × Oper)) (last:List Oper):Type where
 | mk
def Kp (C:Ctx) (n:Nat) (all:List Oper) (K:St→Prop) (KP:PVal→St→Prop) (cut:List (List Oper × Oper)) (last:List Oper) (σ:St) (_:TagZ all K KP cut last):Prop:=Vq C n all K KP cut last σ
def Sq:List Nat→List Oper→Option (List (List Oper × Oper) × List Oper)
 | [],l=>some ([],l)
 | m::ms,l=>match l.drop m with
   | lit::rest=>(Sq ms rest).map fun (c,la)=>((l.take m,lit)::c,la)
   | []=>none
theorem My:∀ (ms:List Nat) (l:List Oper) (c:List (List Oper × Oper)) (la:List Oper),Sq ms l=some (c,la)→Pf c la=l
 | [],l,c,la,h=>by cases h;rfl
 | m::ms,l,c,la,h=>by
   unfold Sq at h
   split at h
   ·rename_i lit rest hd
    cases hq:Sq ms rest with
    | none=>rw [hq] at h;cases h
    | some x =>
      obtain ⟨c',la'⟩:=x
      rw [hq] at h
      simp only [Option.map_some,Option.some.injEq,Prod.mk.injEq] at h
      obtain ⟨rfl,rfl⟩:=h
      simp only [Pf]
      rw [My ms rest c' la' hq,← hd,List.take_append_drop]
   ·cases h
theorem EZ:(∀ (C:Ctx) n all K KP last σ u,Kp C n all K KP [] last σ u=H8 C n all last σ K KP .mk) ∧
  (∀ (C:Ctx) n all K KP pre dd op ty pos af r last σ u,Kp C n all K KP ((pre,{ dst:=dd,op:=op,type:=ty,pos:=pos,after:=af,guard:=none })::r) last σ u =
   H8 C n all pre σ (fun τ=>wZ C op τ fun q=>Kp C n all K KP r last (τ.put n dd q) .mk) KP .mk) :=
 ⟨fun _ _ _ _ _ _ _ _=>rfl,fun C n all K KP pre dd op ty pos af r last σ u=>by
  simp only [Kp,Vq,H8,true_and,wZ]⟩
theorem WC.zs {id:Nat} {l:List Oper} {y:Code} {σ:St} {Q:AEx→St→Prop} (zs:List Nat) {cut:List (List Oper × Oper)} {last:List Oper} (hs:Sq zs l=some (cut,last))
  (h:∀ K:St→Prop,(∀ σ',WC C n y σ' Q→K σ')→Kp C n l K (fun p σ'=>Q (.pan p) σ') cut last σ .mk):WC C n (.seq (.region id l.toArray false) y) σ Q:=by
 have hj:=My _ _ _ _ hs
 refine WC.seq fun V a hR=>?_
 refine wp_region ?_
 rw [List.range_eq_range']
 have:=Ko (ops:=l.toArray) (Q:=Hd (fun σ'=>WC C n y σ' Q) Q) (V0:=V) last cut 0 V σ a (fun j=>by rw [hj];simp) (Later.refl V) hR (h _ fun _ h=>h)
 rw [hj] at this
 simpa using this
theorem WC.z1 {id:Nat} {l:List Oper} {σ:St} {Q:AEx→St→Prop} (zs:List Nat) {cut:List (List Oper × Oper)} {last:List Oper} (hs:Sq zs l=some (cut,last))
  (h:Kp C n l (Q .normal) (fun p σ'=>Q (.pan p) σ') cut last σ .mk):WC C n (.region id l.toArray false) σ Q:=fun V a hR=>by
 have hj:=My _ _ _ _ hs
 refine wp_region ?_
 rw [List.range_eq_range']
 have:=Ko (ops:=l.toArray) (Q:=Q) (V0:=V) last cut 0 V σ a (fun j=>by rw [hj];simp) (Later.refl V) hR h
 rw [hj] at this
 simpa using this
/-- Drawn regions in which such a literal may stand before what is loud. -/
theorem EDz:(∀ (C:Ctx) n (all:List Oper) (K:St→Prop) (KP:PVal→St→Prop) (i:Nat) (nd:List Nat) (dd:Option Nat) (op:Op) (ty:TypeId) (pos:String) (af:Array Edge) (r:List (Pl × Oper)) (pd:List Pd) (e:Env) (o l:List Blk) (d:List PDef) u,
  Hk C n all K KP ((⟨i,2,true,nd⟩,{ dst:=dd,op:=op,type:=ty,pos:=pos,after:=af,guard:=none })::r) pd ⟨e,o,l,d⟩ u =
   wZ C op ⟨e,o,l,d⟩ (fun p=>Hk C n all K KP r (⟨i,2,{ dst:=dd,op:=op,type:=ty,pos:=pos,after:=af,guard:=none },e,p⟩::pd) (St.put ⟨e,o,l,d⟩ n dd p) .mk)) ∧
  (∀ (C:Ctx) (all:List Oper) (nd:List Nat) (k:Nat) (dd:Option Nat) (op:Op) (ty:TypeId) (pos:String) (af:Array Edge) (e:Env) (p:PVal) (r:List Pd) (σ:St) u,
   Nr C all nd (⟨k,2,{ dst:=dd,op:=op,type:=ty,pos:=pos,after:=af,guard:=none },e,p⟩::r) σ u =
    ((Jg nd k=true→wZ C op ⟨e,σ.o,σ.l,σ.d⟩ (·=p))∧Nr C all nd r σ .mk)):=by
 refine ⟨fun C n all K KP i nd dd op ty pos af r pd e o l d u=>?_,fun _ _ _ _ _ _ _ _ _ _ _ _ _ _=>rfl⟩
 have:Hk C n all K KP ((⟨i,2,true,nd⟩,{ dst:=dd,op:=op,type:=ty,pos:=pos,after:=af,guard:=none })::r) pd ⟨e,o,l,d⟩ u =
  ∃ p,Oc C op ⟨e,o,l,d⟩ (·=p)∧wDr C n all K KP r (⟨i,2,{ dst:=dd,op:=op,type:=ty,pos:=pos,after:=af,guard:=none },e,p⟩::pd) (St.put ⟨e,o,l,d⟩ n dd p):=rfl
 rw [this]
 exact propext ⟨fun ⟨p,h1,h2⟩=>Sw (K:=(·=p)) (fun q hq=>by rw [hq];exact h2) h1,fun h=>Qq h⟩
/-- .. and those in which what is loud may be left out. -/
theorem EDg:∀ (C:Ctx) n (all:List Oper) (K:St→Prop) (KP:PVal→St→Prop) (i:Nat) (kp:Bool) (nd:List Nat) (dd:Option Nat) (op:Op) (ty:TypeId) (pos:String) (af:Array Edge) (j:Nat) (want:Bool) (r:List (Pl × Oper)) (pd:List Pd) (σ:St) u,
  Hk C n all K KP ((⟨i,1,kp,nd⟩,{ dst:=dd,op:=op,type:=ty,pos:=pos,after:=af,guard:=some (j,want) })::r) pd σ u =
   gW (yld all σ.e j) want (Do C op σ (fun p τ=>Nr C all nd pd τ .mk∧Hk C n all K KP r pd (τ.put n dd p) .mk) (fun p τ=>∀ e,KP p ⟨e,τ.o,τ.l,τ.d⟩) .mk) (Nr C all nd pd σ .mk∧Hk C n all K KP r pd (σ.put n dd (.tuple [])) .mk) .mk :=
 fun _ _ _ _ _ _ _ _ _ _ _ _ _ _ _ _ _ _ _=>rfl
/-- A region whose operations are told anew (long lists stand as two). -/
theorem WC.rsE {id:Nat} {l l':List Oper} {y:Code} {σ:St} {Q:AEx→St→Prop} (hl:l=l') (h:∀ K:St→Prop,(∀ σ',WC C n y σ' Q→K σ')→H8 C n l' l' σ K (fun p σ'=>Q (.pan p) σ') .mk):WC C n (.seq (.region id l.toArray false) y) σ Q:=by
 subst hl;exact WC.rs h
theorem WC.r1E {id:Nat} {l l':List Oper} {σ:St} {Q:AEx→St→Prop} (hl:l=l') (h:H8 C n l' l' σ (Q .normal) (fun p σ'=>Q (.pan p) σ') .mk):WC C n (.region id l.toArray false) σ Q:=by
 subst hl;exact WC.r1 h
end Go.V
namespace Go.V
open Go
variable {C:Ctx} {n:Nat} {ops:Array Oper} {fl:Nat→Nat}

theorem rep_false (m j:Nat):(Array.replicate m false).getD j false=false:=by
 rcases Nat.lt_or_ge j m with h | h <;> simp [h]
inductive PT where
 | leaf (l:List Pl)
 | st (x:Pl) (r:PT)
 | two (x:Pl) (r:PT) (y:Pl) (s:PT)
 | three (x:Pl) (r:PT) (y:Pl) (s:PT) (z:Pl) (q:PT)
inductive PO where
 | leaf (l:List (Pl × Oper))
 | st (x:Pl) (o:Oper) (r:PO)
 | two (x:Pl) (o:Oper) (r:PO) (y:Pl) (o':Oper) (s:PO)
 | three (x:Pl) (o:Oper) (r:PO) (y:Pl) (o':Oper) (s:PO) (z:Pl) (o'':Oper) (q:PO)
def Hv (all:List Oper):PT→PO
 | .leaf l=>.leaf (Gh all l)
 | .st x r=>match all[x.i]? with
   | some o=>.st x o (Hv all r)
   | none=>.leaf []
 | .two x r y s=>match all[x.i]?,all[y.i]? with
   | some o,some o'=>.two x o (Hv all r) y o' (Hv all s)
   | _,_=>.leaf []
 | .three x r y s z q=>match all[x.i]?,all[y.i]?,all[z.i]? with
   | some o,some o',some o''=>.three x o (Hv all r) y o' (Hv all s) z o'' (Hv all q)
   | _,_,_=>.leaf []
def wDt (C:Ctx) (n:Nat) (all:List Oper) (K:St→Prop) (KP:PVal→St→Prop):PO→List Pd→St→Prop
 | .leaf l,pd,σ=>wDr C n all K KP l pd σ
 | .st x o r,pd,σ=>match x.z with
   | 0=>Ft C all o σ (fun p τ=>wDt C n all K KP r (Ou x.keep ⟨x.i,0,o,σ.e,p⟩ pd) (τ.put n o.dst p)) (fun _ _=>False)
   | 1=>Ft C all o σ (fun p τ=>obl C all x.need pd τ∧wDt C n all K KP r pd (τ.put n o.dst p)) (fun p τ=>∀ e,KP p ⟨e,τ.o,τ.l,τ.d⟩)
   | z=>∃ p,qSt C all z o σ p∧wDt C n all K KP r (Ou x.keep ⟨x.i,z,o,σ.e,p⟩ pd) (σ.put n o.dst p)
 | .two x o r y o' s,pd,σ =>
   Ft C all o σ (fun p τ=>obl C all x.need pd τ∧wDt C n all K KP r pd (τ.put n o.dst p)) (fun p τ=>∀ e,KP p ⟨e,τ.o,τ.l,τ.d⟩) ∧
   Ft C all o' σ (fun p τ=>obl C all y.need pd τ∧wDt C n all K KP s pd (τ.put n o'.dst p)) (fun p τ=>∀ e,KP p ⟨e,τ.o,τ.l,τ.d⟩)
 | .three x o r y o' s z o'' q,pd,σ =>
   Ft C all o σ (fun p τ=>obl C all x.need pd τ∧wDt C n all K KP r pd (τ.put n o.dst p)) (fun p τ=>∀ e,KP p ⟨e,τ.o,τ.l,τ.d⟩) ∧
   Ft C all o' σ (fun p τ=>obl C all y.need pd τ∧wDt C n all K KP s pd (τ.put n o'.dst p)) (fun p τ=>∀ e,KP p ⟨e,τ.o,τ.l,τ.d⟩) ∧
   Ft C all o'' σ (fun p τ=>obl C all z.need pd τ∧wDt C n all K KP q pd (τ.put n o''.dst p)) (fun p τ=>∀ e,KP p ⟨e,τ.o,τ.l,τ.d⟩)
def Ri (rows:List Nat) (x:Pl) (done:List (Nat × Bool)):Bool:=done.all (fun d=>Js rows x.i d.1 || (d.2 && Jg x.need d.1))
def Hf (ops:Array Oper) (fl:Nat→Nat) (rows:List Nat):PT→Nat→Array Bool→List (Nat × Bool)→Bool
 | .leaf l,f,listed,done=>l.length == f && Pc ops fl rows l listed done
 | .st x r,0,listed,done=>false
 | .st x r,f + 1,listed,done=>fl x.i == x.z && match ops[x.i]? with
   | none=>false
   | some o=>match x.z with
     | 1=>(Region.ready .any ops listed == [x.i]) && Ri rows x done && Hf ops fl rows r f (listed.setIfInBounds x.i true) done
     | z=>(z != 0 || I2 o.op) && (Region.ready .any ops listed).contains x.i && Region.free .any ops listed x.i && Hf ops fl rows r f (listed.setIfInBounds x.i true) ((x.i,x.keep)::done)
 | .two x r y s,0,listed,done=>false
 | .two x r y s,f + 1,listed,done=>fl x.i == 1 && fl y.i == 1 && (ops[x.i]?).isSome && (ops[y.i]?).isSome && (Region.ready .any ops listed == [x.i,y.i]) && Ri rows x done && Ri rows y done &&
   Hf ops fl rows r f (listed.setIfInBounds x.i true) done && Hf ops fl rows s f (listed.setIfInBounds y.i true) done
 | .three x r y s z q,0,listed,done=>false
 | .three x r y s z q,f + 1,listed,done=>fl x.i == 1 && fl y.i == 1 && fl z.i == 1 && (ops[x.i]?).isSome && (ops[y.i]?).isSome && (ops[z.i]?).isSome && (Region.ready .any ops listed == [x.i,y.i,z.i]) && Ri rows x done && Ri rows y done && Ri rows z done &&
   Hf ops fl rows r f (listed.setIfInBounds x.i true) done && Hf ops fl rows s f (listed.setIfInBounds y.i true) done && Hf ops fl rows q f (listed.setIfInBounds z.i true) done
def flIn (fs:List (Nat × Nat)) (i:Nat):Nat:=(fs.lookup i).getD 0
def drawT (ops:Array Oper) (fs:List (Nat × Nat)) (t:PT) (rows:List Nat):Bool:=S5 ops rows && hiB ops rows && Hf ops (flIn fs) rows t ops.size (Array.replicate ops.size false) []

theorem clR {rows:List Nat} (hr:S5 ops rows=true) (hr':hiB ops rows=true) {listed:Array Bool} {i:Nat} (hcl:∀ j k,listed.getD j false=true→Js rows j k=true→listed.getD k false=true) (hx:i∈Region.ready .any ops listed) :
  ∀ j k,(listed.setIfInBounds i true).getD j false=true→Js rows j k=true→(listed.setIfInBounds i true).getD k false=true:=fun j k h hk=>by
 refine getD_set_true ?_
 by_cases hj:i=j
 ·subst hj
  obtain ⟨_,o2,ho2,hall⟩:=mem_ready.1 hx
  obtain ⟨o3,ho3,e,he,hb,hh⟩:=Lz hr hr' _ _ hk
  have:o3=o2:=Option.some.inj (ho3.symm.trans ho2)
  subst this
  have h2:=hall e he hb
  rcases hh with rfl | hh
  ·exact h2
  ·exact hcl _ _ h2 hh
 ·rw [getD_set_ne false hj] at h;exact hcl _ _ h hk
theorem Tg {rows:List Nat} {x:Pl} {all:List Oper} {done:List (Nat × Bool)} {pd pk:List Pd} (hpd:∀ x∈pd,∃ kp,(x.k,kp)∈done∧(kp=true→x∈pk)) (h2:Ri rows x done=true) {τ:St} (hk:obl C all x.need pk τ) :
  ∀ y∈pd,Js rows x.i y.k=false→y.ok C all τ:=fun y hy hw=>by
 obtain ⟨kp,hd,hin⟩:=hpd y hy
 have h4:=List.all_eq_true.1 h2 _ hd
 rw [hw] at h4
 simp only [Bool.false_or,Bool.and_eq_true] at h4
 exact Rh hk y (hin h4.1) h4.2

theorem F7 {rows:List Nat} (hr:S5 ops rows=true) (hr':hiB ops rows=true) {K:St→Prop} {KP:PVal→St→Prop}:∀ (t:PT) (f:Nat) (listed:Array Bool) (done:List (Nat × Bool)) (pd pk:List Pd) (σ:St),
  (∀ j k,listed.getD j false=true→Js rows j k=true→listed.getD k false=true) →
  (∀ x∈pd,∃ kp,(x.k,kp)∈done∧(kp=true→x∈pk))→Hf ops fl rows t f listed done=true→wDt C n ops.toList K KP (Hv ops.toList t) pk σ→Pu C n ops fl (Js rows) K KP f pd listed σ
 | .leaf l,f,listed,done,pd,pk,σ,hcl,hpd,hB,h=>by
   simp only [Hf,Bool.and_eq_true,beq_iff_eq] at hB
   obtain ⟨rfl,hB⟩:=hB
   exact Lt hr hr' l listed done pd pk σ hcl hpd hB h
 | .st x r,0,listed,done,pd,pk,σ,hcl,hpd,hB,h=>by simp [Hf] at hB
 | .st x r,f + 1,listed,done,pd,pk,σ,hcl,hpd,hB,h=>by
   unfold Hf at hB
   simp only [Bool.and_eq_true,beq_iff_eq] at hB
   obtain ⟨hf,hB⟩:=hB
   split at hB
   ·cases hB
   ·rename_i o ho
    have ho':ops.toList[x.i]? = some o:=by simpa using ho
    unfold Hv at h
    rw [ho'] at h
    dsimp only at h
    unfold wDt at h
    have quiet:∀ p,fl x.i≠1→x.i∈Region.ready .any ops listed→Region.free .any ops listed x.i=true→Hf ops fl rows r f (listed.setIfInBounds x.i true) ((x.i,x.keep)::done)=true →
      qSt C ops.toList (fl x.i) o σ p→wDt C n ops.toList K KP (Hv ops.toList r) (Ou x.keep ⟨x.i,fl x.i,o,σ.e,p⟩ pk) (σ.put n o.dst p) →
      Pu C n ops fl (Js rows) K KP (f + 1) pd listed σ:=fun p hne hrd hfree hB hq hK=>by
     refine Q1 ho hne (Lz hr hr') f pd listed σ hcl (Region.free_spec ho hfree) hrd hq (F7 hr hr' r f _ _ _ _ _ (clR hr hr' hcl hrd) ?_ hB hK)
     intro y hy
     rcases List.mem_cons.1 hy with rfl | hy
     ·refine ⟨x.keep,List.mem_cons_self,fun hk=>?_⟩
      rw [hk];exact List.mem_cons_self
     ·obtain ⟨kp,h1,h2⟩:=hpd y hy
      refine ⟨kp,List.mem_cons_of_mem _ h1,fun hk=>?_⟩
      cases x.keep
      ·exact h2 hk
      ·exact List.mem_cons_of_mem _ (h2 hk)
    split at hB
    ·rename_i hz
     simp only [Bool.and_eq_true,beq_iff_eq] at hB
     obtain ⟨⟨h1,h2⟩,h3⟩:=hB
     have hmem:x.i∈Region.ready .any ops listed:=by rw [h1];exact List.mem_singleton.2 rfl
     rw [hz] at h hf
     refine ⟨fun h0=>(by rw [h1] at h0;cases h0),fun i hi=>?_⟩
     rw [h1] at hi
     have:i=x.i:=List.mem_singleton.1 hi
     subst this
     unfold Mg
     simp only [ho,hf,if_true]
     exact Db (fun p τ hk=>⟨Tg hpd h2 hk.1,F7 hr hr' r f _ _ _ _ _ (clR hr hr' hcl hmem) hpd h3 hk.2⟩) (fun _ _ h=>h) h
    ·rename_i hz
     simp only [Bool.and_eq_true,Bool.or_eq_true] at hB
     obtain ⟨⟨⟨h0,h1⟩,h2⟩,h3⟩:=hB
     have hmem:x.i∈Region.ready .any ops listed:=by simpa using h1
     split at h
     ·rename_i hz0
      have hp:I2 o.op=true:=by
       rcases h0 with h0 | h0
       ·rw [hz0] at h0;simp at h0
       ·exact h0
      obtain ⟨p,hq,hK⟩:=Qn hp h
      rw [hz0] at hf
      exact quiet p (by rw [hf];decide) hmem h2 h3 (by rw [hf];exact hq) (by rw [hf];exact hK)
     ·rename_i hz1
      exact absurd hz1 hz
     ·obtain ⟨p,hq,hK⟩:=h
      exact quiet p (by rw [hf];exact hz) hmem h2 h3 (by rw [hf];exact hq) (by rw [hf];exact hK)
 | .two x r y s,0,listed,done,pd,pk,σ,hcl,hpd,hB,h=>by simp [Hf] at hB
 | .two x r y s,f + 1,listed,done,pd,pk,σ,hcl,hpd,hB,h=>by
   unfold Hf at hB
   simp only [Bool.and_eq_true,beq_iff_eq] at hB
   obtain ⟨⟨⟨⟨⟨⟨⟨⟨fx,fy⟩,ox⟩,oy⟩,hrd⟩,nx⟩,ny⟩,hx⟩,hy⟩:=hB
   obtain ⟨o,ho⟩:=Option.isSome_iff_exists.1 ox
   obtain ⟨o',ho2⟩:=Option.isSome_iff_exists.1 oy
   have e1:ops.toList[x.i]? = some o:=by simpa using ho
   have e2:ops.toList[y.i]? = some o':=by simpa using ho2
   unfold Hv at h
   rw [e1,e2] at h
   dsimp only at h
   unfold wDt at h
   have mx:x.i∈Region.ready .any ops listed:=by rw [hrd];simp
   have my:y.i∈Region.ready .any ops listed:=by rw [hrd];simp
   refine ⟨fun h0=>(by rw [hrd] at h0;cases h0),fun i hi=>?_⟩
   rw [hrd] at hi
   have hii:i=x.i∨i=y.i:=by simpa using hi
   unfold Mg
   rcases hii with rfl | rfl
   ·simp only [ho,fx,if_true]
    exact Db (fun p τ hk=>⟨Tg hpd nx hk.1,F7 hr hr' r f _ _ _ _ _ (clR hr hr' hcl mx) hpd hx hk.2⟩) (fun _ _ h=>h) h.1
   ·simp only [ho2,fy,if_true]
    exact Db (fun p τ hk=>⟨Tg hpd ny hk.1,F7 hr hr' s f _ _ _ _ _ (clR hr hr' hcl my) hpd hy hk.2⟩) (fun _ _ h=>h) h.2
 | .three x r y s z q,0,listed,done,pd,pk,σ,hcl,hpd,hB,h=>by simp [Hf] at hB
 | .three x r y s z q,f + 1,listed,done,pd,pk,σ,hcl,hpd,hB,h=>by
   unfold Hf at hB
   simp only [Bool.and_eq_true,beq_iff_eq] at hB
   obtain ⟨⟨⟨⟨⟨⟨⟨⟨⟨⟨⟨⟨fx,fy⟩,fz⟩,ox⟩,oy⟩,oz⟩,hrd⟩,nx⟩,ny⟩,nz⟩,hx⟩,hy⟩,hz⟩:=hB
   obtain ⟨o,ho⟩:=Option.isSome_iff_exists.1 ox
   obtain ⟨o',ho2⟩:=Option.isSome_iff_exists.1 oy
   obtain ⟨o'',ho3⟩:=Option.isSome_iff_exists.1 oz
   have e1:ops.toList[x.i]? = some o:=by simpa using ho
   have e2:ops.toList[y.i]? = some o':=by simpa using ho2
   have e3:ops.toList[z.i]? = some o'':=by simpa using ho3
   unfold Hv at h
   rw [e1,e2,e3] at h
   dsimp only at h
   unfold wDt at h
   have mx:x.i∈Region.ready .any ops listed:=by rw [hrd];simp
   have my:y.i∈Region.ready .any ops listed:=by rw [hrd];simp
   have mz:z.i∈Region.ready .any ops listed:=by rw [hrd];simp
   refine ⟨fun h0=>(by rw [hrd] at h0;cases h0),fun i hi=>?_⟩
   rw [hrd] at hi
   have hii:i=x.i∨i=y.i∨i=z.i:=by simpa using hi
   unfold Mg
   rcases hii with rfl | rfl | rfl
   ·simp only [ho,fx,if_true]
    exact Db (fun p τ hk=>⟨Tg hpd nx hk.1,F7 hr hr' r f _ _ _ _ _ (clR hr hr' hcl mx) hpd hx hk.2⟩) (fun _ _ h=>h) h.1
   ·simp only [ho2,fy,if_true]
    exact Db (fun p τ hk=>⟨Tg hpd ny hk.1,F7 hr hr' s f _ _ _ _ _ (clR hr hr' hcl my) hpd hy hk.2⟩) (fun _ _ h=>h) h.2.1
   ·simp only [ho3,fz,if_true]
    exact Db (fun p τ hk=>⟨Tg hpd nz hk.1,F7 hr hr' q f _ _ _ _ _ (clR hr hr' hcl mz) hpd hz hk.2⟩) (fun _ _ h=>h) h.2.2

theorem WC.drawT {id:Nat} {l:List Oper} {σ:St} {Q:AEx→St→Prop} (fs:List (Nat × Nat)) (t:PT) (rows:List Nat) (hm:C.P.follows .mixedOrders=true) (hB:drawT l.toArray fs t rows=true)
  (h:wDt C n l (Q .normal) (fun p σ=>Q (.pan p) σ) (Hv l t) [] σ):WC C n (.region id l.toArray true) σ Q:=fun V a hR=>by
 unfold Go.V.drawT at hB
 simp only [Bool.and_eq_true] at hB
 obtain ⟨⟨h2,h3⟩,h4⟩:=hB
 refine wp_region_any hm ?_
 refine Qz (V0:=V) (fl:=flIn fs) (wt:=Js rows) l.toArray.size [] _ V.drew σ a V.later_drew hR.drew ?_
 exact F7 h2 h3 t _ _ [] [] [] σ (fun j k hj=>by rw [rep_false] at hj;cases hj) (fun x hx=>by cases hx) h4 h

inductive TagT (all:List Oper) (K:St→Prop) (KP:PVal→St→Prop) (r:PO) (pd:List Pd):Type where
 | mk
def L8 (C:Ctx) (n:Nat) (all:List Oper) (K:St→Prop) (KP:PVal→St→Prop) (r:PO) (pd:List Pd) (σ:St) (_:TagT all K KP r pd):Prop:=wDt C n all K KP r pd σ
theorem WC.ts {id:Nat} {l:List Oper} {y:Code} {σ:St} {Q:AEx→St→Prop} (fs:List (Nat × Nat)) (t:PT) (rows:List Nat) (hm:C.P.follows .mixedOrders=true) (hB:Go.V.drawT l.toArray fs t rows=true)
  {r:PO} (hr:Hv l t=r) (h:∀ K:St→Prop,(∀ σ',WC C n y σ' Q→K σ')→L8 C n l K (fun p σ'=>Q (.pan p) σ') r [] σ .mk):WC C n (.seq (.region id l.toArray true) y) σ Q :=
 by subst hr;exact WC.seq (WC.drawT fs t rows hm hB (h _ fun _ h=>h))
theorem WC.t1 {id:Nat} {l:List Oper} {σ:St} {Q:AEx→St→Prop} (fs:List (Nat × Nat)) (t:PT) (rows:List Nat) (hm:C.P.follows .mixedOrders=true) (hB:Go.V.drawT l.toArray fs t rows=true)
  {r:PO} (hr:Hv l t=r) (h:L8 C n l (Q .normal) (fun p σ'=>Q (.pan p) σ') r [] σ .mk):WC C n (.region id l.toArray true) σ Q:=by subst hr;exact WC.drawT fs t rows hm hB h

/-- The walk of such a region: bundled. -/
theorem EDt:(∀ (C:Ctx) n (all:List Oper) K KP l pd σ u,L8 C n all K KP (.leaf l) pd σ u=Hk C n all K KP l pd σ .mk) ∧
  (∀ (C:Ctx) n (all:List Oper) (K:St→Prop) (KP:PVal→St→Prop) (i:Nat) (nd:List Nat) (dd:Option Nat) (op:Op) (ty:TypeId) (pos:String) (af:Array Edge) (r:PO) (pd:List Pd) (σ:St) u,
   L8 C n all K KP (.st ⟨i,0,false,nd⟩ { dst:=dd,op:=op,type:=ty,pos:=pos,after:=af,guard:=none } r) pd σ u=Do C op σ (fun p τ=>L8 C n all K KP r pd (τ.put n dd p) .mk) (fun _ _=>False) .mk) ∧
  (∀ (C:Ctx) n (all:List Oper) (K:St→Prop) (KP:PVal→St→Prop) (i:Nat) (nd:List Nat) (dd:Option Nat) (op:Op) (ty:TypeId) (pos:String) (af:Array Edge) (r:PO) (pd:List Pd) (e:Env) (o l:List Blk) (d:List PDef) u,
   L8 C n all K KP (.st ⟨i,0,true,nd⟩ { dst:=dd,op:=op,type:=ty,pos:=pos,after:=af,guard:=none } r) pd ⟨e,o,l,d⟩ u =
    Do C op ⟨e,o,l,d⟩ (fun p τ=>L8 C n all K KP r (⟨i,0,{ dst:=dd,op:=op,type:=ty,pos:=pos,after:=af,guard:=none },e,p⟩::pd) (τ.put n dd p) .mk) (fun _ _=>False) .mk) ∧
  (∀ (C:Ctx) n (all:List Oper) (K:St→Prop) (KP:PVal→St→Prop) (i:Nat) (kp:Bool) (nd:List Nat) (dd:Option Nat) (op:Op) (ty:TypeId) (pos:String) (af:Array Edge) (r:PO) (pd:List Pd) (σ:St) u,
   L8 C n all K KP (.st ⟨i,1,kp,nd⟩ { dst:=dd,op:=op,type:=ty,pos:=pos,after:=af,guard:=none } r) pd σ u =
    Do C op σ (fun p τ=>Nr C all nd pd τ .mk∧L8 C n all K KP r pd (τ.put n dd p) .mk) (fun p τ=>∀ e,KP p ⟨e,τ.o,τ.l,τ.d⟩) .mk) ∧
  (∀ (C:Ctx) n (all:List Oper) (K:St→Prop) (KP:PVal→St→Prop) (i:Nat) (kp:Bool) (nd:List Nat) (dd:Option Nat) (op:Op) (ty:TypeId) (pos:String) (af:Array Edge) (r:PO)
   (i':Nat) (z':Nat) (kp':Bool) (nd':List Nat) (dd':Option Nat) (op':Op) (ty':TypeId) (pos':String) (af':Array Edge) (s:PO) (pd:List Pd) (σ:St) u,
   L8 C n all K KP (.two ⟨i,1,kp,nd⟩ { dst:=dd,op:=op,type:=ty,pos:=pos,after:=af,guard:=none } r ⟨i',z',kp',nd'⟩ { dst:=dd',op:=op',type:=ty',pos:=pos',after:=af',guard:=none } s) pd σ u =
    (Do C op σ (fun p τ=>Nr C all nd pd τ .mk∧L8 C n all K KP r pd (τ.put n dd p) .mk) (fun p τ=>∀ e,KP p ⟨e,τ.o,τ.l,τ.d⟩) .mk ∧
     Do C op' σ (fun p τ=>Nr C all nd' pd τ .mk∧L8 C n all K KP s pd (τ.put n dd' p) .mk) (fun p τ=>∀ e,KP p ⟨e,τ.o,τ.l,τ.d⟩) .mk)) ∧
  (∀ (C:Ctx) n (all:List Oper) (K:St→Prop) (KP:PVal→St→Prop) (i:Nat) (kp:Bool) (nd:List Nat) (dd:Option Nat) (op:Op) (ty:TypeId) (pos:String) (af:Array Edge) (r:PO)
   (i':Nat) (z':Nat) (kp':Bool) (nd':List Nat) (dd':Option Nat) (op':Op) (ty':TypeId) (pos':String) (af':Array Edge) (s:PO)
   (i2:Nat) (z2:Nat) (kp2:Bool) (nd2:List Nat) (dd2:Option Nat) (op2:Op) (ty2:TypeId) (pos2:String) (af2:Array Edge) (q:PO) (pd:List Pd) (σ:St) u,
   L8 C n all K KP (.three ⟨i,1,kp,nd⟩ { dst:=dd,op:=op,type:=ty,pos:=pos,after:=af,guard:=none } r ⟨i',z',kp',nd'⟩ { dst:=dd',op:=op',type:=ty',pos:=pos',after:=af',guard:=none } s ⟨i2,z2,kp2,nd2⟩ { dst:=dd2,op:=op2,type:=ty2,pos:=pos2,after:=af2,guard:=none } q) pd σ u =
    (Do C op σ (fun p τ=>Nr C all nd pd τ .mk∧L8 C n all K KP r pd (τ.put n dd p) .mk) (fun p τ=>∀ e,KP p ⟨e,τ.o,τ.l,τ.d⟩) .mk ∧
     Do C op' σ (fun p τ=>Nr C all nd' pd τ .mk∧L8 C n all K KP s pd (τ.put n dd' p) .mk) (fun p τ=>∀ e,KP p ⟨e,τ.o,τ.l,τ.d⟩) .mk ∧
     Do C op2 σ (fun p τ=>Nr C all nd2 pd τ .mk∧L8 C n all K KP q pd (τ.put n dd2 p) .mk) (fun p τ=>∀ e,KP p ⟨e,τ.o,τ.l,τ.d⟩) .mk)) :=
 ⟨fun _ _ _ _ _ _ _ _ _=>rfl,fun _ _ _ _ _ _ _ _ _ _ _ _ _ _ _ _=>rfl,fun _ _ _ _ _ _ _ _ _ _ _ _ _ _ _ _ _ _ _=>rfl,fun _ _ _ _ _ _ _ _ _ _ _ _ _ _ _ _ _=>rfl,fun _ _ _ _ _ _ _ _ _ _ _ _ _ _ _ _ _ _ _ _ _ _ _ _ _ _ _=>rfl,fun _ _ _ _ _ _ _ _ _ _ _ _ _ _ _ _ _ _ _ _ _ _ _ _ _ _ _ _ _ _ _ _ _ _ _ _ _=>rfl⟩
theorem EPt:(∀ all l,Hv all (.leaf l)=.leaf (Gh all l))∧(∀ all x r,Hv all (.st x r)=match all[x.i]? with
  | some o=>.st x o (Hv all r)
  | none=>.leaf [])∧(∀ all x r y s,Hv all (.two x r y s)=match all[x.i]?,all[y.i]? with
  | some o,some o'=>.two x o (Hv all r) y o' (Hv all s)
  | _,_=>.leaf [])∧(∀ all x r y s z q,Hv all (.three x r y s z q)=match all[x.i]?,all[y.i]?,all[z.i]? with
  | some o,some o',some o''=>.three x o (Hv all r) y o' (Hv all s) z o'' (Hv all q)
  | _,_,_=>.leaf []):=⟨fun _ _=>rfl,fun _ _ _=>rfl,fun _ _ _ _ _=>rfl,fun _ _ _ _ _ _ _=>rfl⟩
end Go.V
namespace Go.V
open Go
variable {C:Ctx} {n:Nat}

theorem MemRel.tell {V:View} {B:Ref→Option Blk} (hM:MemRel C V B) {r:Ref} {b b':Blk} (h:B r=some b) (hb:BlkRep V r b'):MemRel C V (upd B r b') where
 blk x k hx:=by
  by_cases e:x=r
  ·subst e;rw [Ks] at hx;cases hx;exact hb
  ·rw [Kt e] at hx;exact hM.blk x k hx
 out x hx:=by
  by_cases e:x=r
  ·subst e;rw [Ks] at hx;cases hx
  ·rw [Kt e] at hx;exact hM.out x hx
 inj:=hM.inj
 own:=hM.own
 lt:=hM.lt
 glob:=hM.glob

/-- The row k, which the cell c of the struct in the row j holds, is given up. -/
theorem Dy {c:Code} {e:Env} {o l:List Blk} {d:List PDef} {Q:AEx→St→Prop} (j k m:Nat) {cs:List PVal} {sz tj:Nat} {off len:Nat} {elems:List PVal} {size:Nat} {ty:TypeId}
  (hj:l[j]? = some (.row [.agg cs] sz tj)) (hm:cs[m]? = some (.ref (.l k) off len)) (hk:l[k]? = some (.row elems size ty)) (hne:j≠k) (hle:off + len≤elems.length)
  (h:WC C n c ⟨e,o,(l.set k .dead).set j (.row [.agg (cs.set m (.slc ((elems.drop off).take len)))] sz tj),d⟩ Q):WC C n c ⟨e,o,l,d⟩ Q:=fun V a hR=>by
 have hB:Ao o l (.l k)=some (.row elems size ty):=hk
 have hJ:Ao o l (.l j)=some (.row [.agg cs] sz tj):=hj
 have hrk:=hR.mem.blk _ _ hB
 have hrj:=hR.mem.blk _ _ hJ
 have e1:Ao o (l.set k .dead)=upd (Ao o l) (.l k) .dead:=Ep (σ:=⟨e,o,l,d⟩) (k:=.dead) hB
 have hM1:MemRel C (V.frz (.l k)) (Ao o (l.set k .dead)):=by rw [e1];exact hR.mem.frz _
 have hJ1:Ao o (l.set k .dead) (.l j)=some (.row [.agg cs] sz tj):=by rw [e1,Kt (by simp [hne])];exact hJ
 have hto:=V.to_frz (.l k)
 have hb':BlkRep (V.frz (.l k)) (.l j) (.row [.agg (cs.set m (.slc ((elems.drop off).take len)))] sz tj):=by
  rcases hrj with ⟨_,h2⟩ | ⟨b,base,cells,fr,h1,h2,h3,h4,h5,h6,h7⟩
  ·cases h2
  ·refine .inr ⟨b,base,cells,fr,?_,h2,h3,h4,h5,fun i x hx=>?_,fun i x jj cc hx hc=>?_⟩
   ·have:(V.frz (.l k)).loc (.l j)=V.loc (.l j):=B0 (by simp [hne])
    rw [this];exact h1
   ·match i with
    | 0 =>
      simp at hx;subst hx
      have:=h6 0 (.agg cs) rfl
      simpa [PVal.cells] using this
    | i + 1=>simp at hx
   ·match i with
    | 0 =>
      simp at hx;subst hx
      simp only [PVal.cells] at hc
      by_cases hmj:m=jj
      ·subst hmj
       have hlt:m < cs.length:=(List.getElem?_eq_some_iff.1 hm).1
       rw [List.getElem?_set_self hlt] at hc
       cases hc
       exact Z7 hR.mem.locLt hrk (h7 0 (.agg cs) m _ rfl hm) hle
      ·rw [List.getElem?_set_ne hmj] at hc
       exact (h7 0 (.agg cs) jj cc rfl hc).mono hto
    | i + 1=>simp at hx
 have hM2:MemRel C (V.frz (.l k)) (Ao o ((l.set k .dead).set j (.row [.agg (cs.set m (.slc ((elems.drop off).take len)))] sz tj))):=by
  have:=Ep (σ:=⟨e,o,l.set k .dead,d⟩) (k:=.row [.agg (cs.set m (.slc ((elems.drop off).take len)))] sz tj) hJ1
  refine (congrArg (MemRel C (V.frz (.l k))) ?_).mpr (hM1.tell hJ1 hb')
  exact this
 have hW:Went C V ⟨e,o,l,d⟩ (V.frz (.l k)) ⟨e,o,(l.set k .dead).set j (.row [.agg (cs.set m (.slc ((elems.drop off).take len)))] sz tj),d⟩:=⟨hto,V.later_frz _,hM2,rfl,rfl⟩
 have h3:c.wp C.P (Kn C n (V.frz (.l k)) Q) a V.w:=h (V.frz (.l k)) a (hW.rel hR)
 exact wp_mono h3 fun _ _ _ ⟨V',σ'',x,k1,k2,k3,k4,k5⟩=>⟨V',σ'',x,k1,hW.later.trans k2,k3,k4,k5⟩
end Go.V
namespace Go.V
open Go
variable {C:Ctx} {n:Nat}

theorem Yo {fn:Func} {V V':View} {st:List Blk} {σ':St} {a':Act} {R:PRes→List Blk→Prop} (hM:MemRel C V (Ao st [])) (h2:Later V V') (h3:Rel C fn.ntmps V' σ' a')
  (hres:E3 C σ' fn.results.toList [] fun ps=>EndsIn σ' (tup ps) fun p st=>R (.ret p) st) :
  ∃ v,(results fn a'.tmps).run C.P V'.w=.ok v V'.w∧∃ V'' st' r,V''.w=V'.w∧V.To V''∧Later V V''∧MemRel C V'' (Ao st' [])∧Ji V'' r (.returned v)∧R r st':=by
 have to:∀ V'':View,V''.w=V'.w→Later V' V''→(∀ j,V'.loc (.o j)≠.out→V''.loc (.o j)=V'.loc (.o j))→V.To V'':=fun V'' hw hl hlo=>by
  have hl2:=h2.trans hl
  refine ⟨hl2.size,fun b hb hno=>hl2.heap b hb fun r x y hr=>hno (hM.own r b x y hr),hl2.own,fun r hr=>?_,fun r b base size hr he ty m hs=>?_⟩
  ·cases r with
   | o j=>exact hl2.loc j hr
   | l j=>exact absurd (hM.out (.l j) (by simp [Ao])) hr
  ·cases r with
   | o j=>exact hl2.shape j b base size hr he ty m hs
   | l j=>rw [hM.out (.l j) (by simp [Ao])] at hr;cases hr
 obtain ⟨rvs,ps,k1,k2,k3,k4⟩:=Iw h3 fn.results.toList [] [] _ rfl (fun j p hj=>by simp at hj) hres
 simp only [List.reverse_nil,List.nil_append] at k3 k4
 obtain ⟨V'',p',st',e1,e2,e3,e4,e5,e6,e7⟩:=I6 h3 k2
 have hrun:(results fn a'.tmps).run C.P V'.w=.ok (if h:rvs.length=1 then rvs[0] else .tuple rvs.toArray) V'.w:=by
  have e:results fn a'.tmps=(do
    let vs ← fn.results.mapM (Rc a'.tmps)
    pure (if h:vs.size=1 then vs[0] else .tuple vs)):=rfl
  rw [e,Array.mapM_eq_mapM_toList]
  simp [k1]
 refine ⟨_,hrun,V'',st',.ret p',e1,to V'' e1 e2 e7,h2.trans e2,e3,e4 _ ?_,e5⟩
 clear hres k2 e4 hrun
 by_cases h1:rvs.length=1
 ·rw [dif_pos h1]
  obtain ⟨p,rfl⟩:∃ p,ps=[p]:=by
   match ps,k3 with
   | [p],_=>exact ⟨p,rfl⟩
   | [],k3=>simp at k3;omega
   | _::_::_,k3=>simp at k3;omega
  have:=k4 0 p rfl
  rw [List.getD_eq_getElem?_getD,List.getElem?_eq_getElem (by omega)] at this
  exact this
 ·rw [dif_neg h1]
  have:tup ps=.tuple ps:=by
   match ps,k3 with
   | [p],k3=>simp at k3;omega
   | [],_=>rfl
   | _::_::_,_=>rfl
  rw [this]
  refine .tuple (by simpa using k3.symm) fun j p hj=>?_
  have:=k4 j p hj
  rw [List.getD_eq_getElem?_getD] at this
  rw [Array.getD_eq_getD_getElem?]
  simpa using this
theorem panEnd {m:Nat} {V V':View} {st:List Blk} {σ':St} {a':Act} {R:PRes→List Blk→Prop} {p:PVal} {chain:List PanicEntry} (hM:MemRel C V (Ao st [])) (h2:Later V V') (h3:Rel C m V' σ' a')
  (h4:Ji V' (.pan p) (.panicked chain)) (hend:EndsIn σ' p fun p st=>R (.pan p) st) :
  ∃ V'' st' r,V''.w=V'.w∧V.To V''∧Later V V''∧MemRel C V'' (Ao st' [])∧Ji V'' r (.panicked chain)∧R r st':=by
 have to:∀ V'':View,V''.w=V'.w→Later V' V''→(∀ j,V'.loc (.o j)≠.out→V''.loc (.o j)=V'.loc (.o j))→V.To V'':=fun V'' hw hl hlo=>by
  have hl2:=h2.trans hl
  refine ⟨hl2.size,fun b hb hno=>hl2.heap b hb fun r x y hr=>hno (hM.own r b x y hr),hl2.own,fun r hr=>?_,fun r b base size hr he ty m hs=>?_⟩
  ·cases r with
   | o j=>exact hl2.loc j hr
   | l j=>exact absurd (hM.out (.l j) (by simp [Ao])) hr
  ·cases r with
   | o j=>exact hl2.shape j b base size hr he ty m hs
   | l j=>rw [hM.out (.l j) (by simp [Ao])] at hr;cases hr
 obtain ⟨v,rfl,hv⟩:=h4
 obtain ⟨V'',p',st',e1,e2,e3,e4,e5,e6,e7⟩:=I6 h3 hend
 exact ⟨V'',st',.pan p',e1,to V'' e1 e2 e7,h2.trans e2,e3,⟨v,rfl,e4 v hv⟩,e5⟩

/-- What a deferred call meets: the frame that it was deferred in returns, or panics with this. -/
def Uy (V:View) (pm:Option PVal) (u:FrameMode):Prop :=
 match pm with
 | none=>u=.returning
 | some p=>∃ v,u=.panicking [{ v,recovered:=false }]∧Rep V p v

/-- What the deferred call D means where it runs: it returns, and the frame returns behind it. -/
def DW (C:Ctx) (D:PDef) (σ:St) (pm:Option PVal) (K:St→Prop):Prop :=
 okF C.P D.f=true∧∀ V vs u,MemRel C V (Ao σ.o σ.l)→Ca V (D.args ++ D.caps) vs→Uy V pm u →
  CallsD C.P D.f vs u V.w fun e u' w'=>∃ V' σ',V'.w=w'∧Went C V σ V' σ'∧(∃ x,e=.returned x)∧settle u'=.returning∧K σ'

/-- THE MEANING OF A FUNCTION THAT IS DEFERRED. -/
def DSem (C:Ctx) (f:FuncId) (args:List PVal) (st:List Blk) (pm:Option PVal) (R:List Blk→Prop):Prop :=
 okF C.P f=true∧∀ V vs u,MemRel C V (Ao st [])→Ca V args vs→Uy V pm u →
  CallsD C.P f vs u V.w fun e u' w'=>∃ V' st',V'.w=w'∧V.To V'∧Later V V'∧MemRel C V' (Ao st' [])∧(∃ x,e=.returned x)∧settle u'=.returning∧R st'

theorem DW.of {D:PDef} {σ:St} {K:St→Prop} {args':List PVal} {st:List Blk} {pm:Option PVal} {R:List Blk→Prop} (spec:DSem C D.f args' st pm R) (ρ:List Ref) (hnd:ρ.Nodup) (hpm:∀ p,pm=some p→Closed p)
  (hargs:D.args ++ D.caps=Ba (A4 ρ σ.l.length) args') (hlen:ρ.length=st.length) (hst:∀ (j:Nat) (r:Ref) (k:Blk),ρ[j]? = some r→st[j]? = some k→Ao σ.o σ.l r=some (Cu (A4 ρ σ.l.length) k))
  (hK:∀ st',R st'→K (By σ ρ (st'.map (Cu (Ec ρ σ.l.length))))):DW C D σ pm K:=by
 refine ⟨spec.1,fun V vs u hM hvs hu=>?_⟩
 obtain ⟨Vc,hw,hMc,hvs',hp,hback⟩:=handed ρ hnd hargs hlen hst hM hvs
 have hu':Uy Vc pm u:=by
  cases pm with
  | none=>exact hu
  | some p =>
    obtain ⟨v,h1,h2⟩:=hu
    exact ⟨v,h1,hp p v (by rw [hpm p rfl];exact h2)⟩
 have h:=spec.2 Vc vs u hMc hvs' hu'
 rw [hw] at h
 refine h.mono fun e u' w' ⟨Vc',st',hw',hTo,hLa,hM',⟨x,hx⟩,hset,hR⟩=>?_
 subst hx
 obtain ⟨V',h1,h2,h3⟩:=hback Vc' st' (.ret .any) (.returned x) hTo hLa hM' .any
 exact ⟨V',_,h1.trans hw',h2,⟨x,rfl⟩,hset,hK st' hR⟩

/-- What is met at the end of a function with a deferred call at most. -/
def FnQD (C:Ctx) (fn:Func) (R:PRes→List Blk→Prop):AEx→St→Prop
 | .normal,σ | .ret,σ=>match σ.d with
   | []=>E3 C σ fn.results.toList [] fun ps=>EndsIn σ (tup ps) fun p st=>R (.ret p) st
   | [D]=>DW C D σ none fun σ=>E3 C σ fn.results.toList [] fun ps=>EndsIn σ (tup ps) fun p st=>R (.ret p) st
   | _=>False
 | .pan p,σ=>match σ.d with
   | []=>EndsIn σ p fun p st=>R (.pan p) st
   | [D]=>DW C D σ (some p) fun σ=>E3 C σ fn.results.toList [] fun ps=>EndsIn σ (tup ps) fun p st=>R (.ret p) st
   | _=>False
 | .exit _,_=>False

theorem Xq {f:FuncId} {fn:Func} {c:Code} {n:Nat} {args:List PVal} {st:List Blk} {R:PRes→List Blk→Prop} (hf:C.P.funcs[f]? = some fn) (hb:fn.body=some c) (hn:fn.ntmps=n) (hok:okF C.P f=true)
  (ha:args.length≤n) (h:WC C n c ⟨Aj 0 args,st,[],[]⟩ (FnQD C fn R)):FSem C f args st R:=by
 subst hn
 refine ⟨hok,fun V vs hM hvs=>calls_of_wp_defers hf hb ?_⟩
 have hsz:vs.size=args.length:=hvs.1
 have hR:Rel C fn.ntmps V ⟨Aj 0 args,st,[],[]⟩ { tmps:=vs ++ Array.replicate (fn.ntmps - vs.size) undef,defers:=[] }:=by
  refine ⟨hM,fun t=>?_,by simp;omega,trivial⟩
  rw [L3,if_pos (Nat.zero_le _),Nat.sub_zero,List.getD_eq_getElem?_getD]
  cases hq:args[t]? with
  | none=>exact .any
  | some p =>
    have hlt:t < args.length:=(List.getElem?_eq_some_iff.1 hq).1
    have:=hvs.2 t p hq
    rw [Array.getD_eq_getD_getElem?] at this ⊢
    rw [Array.getElem?_append_left (by omega)]
    exact this
 refine wp_mono (h V _ hR) fun e a' w' ⟨V',σ',x,h1,h2,h3,h4,h5⟩=>?_
 subst h1
 have nod:σ'.d=[]→a'.defers=[]:=fun hd=>by
  have:=h3.defers
  rw [hd] at this
  cases hdd:a'.defers with
  | nil=>rfl
  | cons=>rw [hdd] at this;exact this.elim
 have one:∀ D,σ'.d=[D]→∃ caps as,a'.defers=[{ target:=.fn (.func D.f) caps,args:=as }]∧Ca V' (D.args ++ D.caps) (as ++ caps):=fun D hd=>by
  have:=h3.defers
  rw [hd] at this
  cases hdd:a'.defers with
  | nil=>rw [hdd] at this;exact this.elim
  | cons d ds =>
    rw [hdd] at this
    obtain ⟨⟨caps,as,h1,h2,h3⟩,h4⟩:=this
    cases ds with
    | nil=>subst h1;exact ⟨caps,as,rfl,Im h2 h3⟩
    | cons=>exact h4.elim
 have run1:∀ (D:PDef) (pm:Option PVal) (u:FrameMode),σ'.d=[D]→u≠.run→Uy V' pm u →
   (DW C D σ' pm fun σ=>E3 C σ fn.results.toList [] fun ps=>EndsIn σ (tup ps) fun p st=>R (.ret p) st) →
   Leaves C.P fn a'.tmps (fun e w'=>∃ V' st' r,V'.w=w'∧V.To V'∧Later V V'∧MemRel C V' (Ao st' [])∧Ji V' r e∧R r st') a'.defers u V'.w:=fun D pm u hd hu hmo hdw=>by
  obtain ⟨caps,as,hdd,hl⟩:=one D hd
  rw [hdd]
  refine ⟨hu,_,_,D.f,as ++ caps,rfl,N4 hdw.1 _ _,?_⟩
  refine (hdw.2 V' (as ++ caps) u h3.mem hl hmo).mono fun e u' w' ⟨V2,σ2,hw2,hwent,⟨x,hx⟩,hset,hk⟩=>?_
  subst hx hw2
  dsimp only
  rw [hset]
  obtain ⟨v,hr,hrest⟩:=Yo hM (h2.trans hwent.later) (hwent.rel h3) hk
  exact ⟨v,hr,hrest⟩
 have fin:FnQD C fn R .normal σ'→Leaves C.P fn a'.tmps (fun e w'=>∃ V' st' r,V'.w=w'∧V.To V'∧Later V V'∧MemRel C V' (Ao st' [])∧Ji V' r e∧R r st') a'.defers .returning V'.w:=fun h5=>by
  unfold FnQD at h5
  dsimp only at h5
  split at h5
  ·rename_i hd
   rw [nod hd]
   exact Yo hM h2 h3 h5
  ·rename_i D hd
   exact run1 D none _ hd (fun h=>by cases h) rfl h5
  ·exact h5.elim
 cases x with
 | normal=>cases e <;> first | exact h4.elim | exact fin h5
 | ret=>cases e <;> first | exact h4.elim | exact fin h5
 | exit id=>exact h5.elim
 | pan p =>
   cases e <;> first | exact h4.elim | skip
   rename_i chain
   unfold FnQD at h5
   dsimp only at h5
   show Leaves _ _ _ _ _ _ _
   split at h5
   ·rename_i hd
    rw [nod hd]
    exact panEnd hM h2 h3 h4 h5
   ·rename_i D hd
    obtain ⟨v,hc,hv⟩:=h4
    subst hc
    exact run1 D (some p) _ hd (fun h=>by cases h) ⟨v,rfl,hv⟩ h5
   ·exact h5.elim

/-- A function that is deferred and begins with recover(). -/
theorem Ps {f:FuncId} {fn:Func} {id t:Nat} {ty:TypeId} {pos:String} {af:Array Edge} {rest:Code} {n:Nat} {args:List PVal} {st:List Blk} {pm:Option PVal} {R:List Blk→Prop} (hf:C.P.funcs[f]? = some fn)
  (hb:fn.body=some (.seq (.region id #[{ dst:=some t,op:=.call { callee:=.builtin .recover,args:=#[],argTypes:=#[] },type:=ty,pos:=pos,after:=af,guard:=none }] false) rest)) (hn:fn.ntmps=n) (hok:okF C.P f=true)
  (ha:args.length≤n) (ht:t < n) (h:WC C n rest ⟨(t,pm.getD .niliface)::Aj 0 args,st,[],[]⟩ (FnQ C fn fun r st=>(∃ x,r=.ret x)∧R st)):DSem C f args st pm R:=by
 subst hn
 refine ⟨hok,fun V vs u hM hvs hu=>callsD_of_wpS hf hb fun c₀ cs hmode=>?_⟩
 have hsz:vs.size=args.length:=hvs.1
 have hR:Rel C fn.ntmps V ⟨Aj 0 args,st,[],[]⟩ { tmps:=vs ++ Array.replicate (fn.ntmps - vs.size) undef,defers:=[] }:=by
  refine ⟨hM,fun t=>?_,by simp;omega,trivial⟩
  rw [L3,if_pos (Nat.zero_le _),Nat.sub_zero,List.getD_eq_getElem?_getD]
  cases hq:args[t]? with
  | none=>exact .any
  | some p =>
    have hlt:t < args.length:=(List.getElem?_eq_some_iff.1 hq).1
    have:=hvs.2 t p hq
    rw [Array.getD_eq_getD_getElem?] at this ⊢
    rw [Array.getElem?_append_left (by omega)]
    exact this
 have go:∀ (v:Value) (u':FrameMode),Rep V (pm.getD .niliface) v→settle u'=.returning →
   rest.wpS C.P (bodyPostS C.P fn c₀ cs fun e u' w'=>∃ V' st',V'.w=w'∧V.To V'∧Later V V'∧MemRel C V' (Ao st' [])∧(∃ x,e=.returned x)∧settle u'=.returning∧R st')
    (({ tmps:=vs ++ Array.replicate (fn.ntmps - vs.size) undef,defers:=[] }:Act).put (some t) v) ({ c₀ with mode:=u' }::cs) V.w:=fun v u' hv hset=>by
  have hR1:=Fk hR hv (some t)
  rw [show St.put ⟨Aj 0 args,st,[],[]⟩ fn.ntmps (some t) (pm.getD .niliface)=⟨(t,pm.getD .niliface)::Aj 0 args,st,[],[]⟩ by rw [Le,if_pos ht]] at hR1
  refine wpS_of_wp (wp_mono (h V _ hR1) fun e a' w' ⟨V',σ',x,h1,h2,h3,h4,h5⟩=>?_)
  subst h1
  have nod:σ'.d=[]→a'.defers=[]:=fun hd=>by
   have:=h3.defers
   rw [hd] at this
   cases hdd:a'.defers with
   | nil=>rfl
   | cons=>rw [hdd] at this;exact this.elim
  have fin:FnQ C fn (fun r st=>(∃ x,r=.ret x)∧R st) .normal σ'→a'.defers=[]∧∃ u'',({ c₀ with mode:=u' }::cs:List Frame)={ c₀ with mode:=u'' }::cs∧∃ v,(results fn a'.tmps).run C.P V'.w=.ok v V'.w ∧
    ∃ V'' st',V''.w=V'.w∧V.To V''∧Later V V''∧MemRel C V'' (Ao st' [])∧(∃ x,Ending.returned v=.returned x)∧settle u''=.returning∧R st':=fun ⟨hd,hres⟩=>by
   obtain ⟨v,hr,V'',st',r,e1,e2,e3,e4,e5,e6⟩:=Yo (R:=fun r st=>(∃ x,r=PRes.ret x)∧R st) hM h2 h3 hres
   exact ⟨nod hd,u',rfl,v,hr,V'',st',e1,e2,e3,e4,⟨v,rfl⟩,hset,e6.2⟩
  cases x with
  | normal=>cases e <;> first | exact h4.elim | exact fin h5
  | ret=>cases e <;> first | exact h4.elim | exact fin h5
  | exit id=>exact h5.elim
  | pan p =>
    cases e <;> first | exact h4.elim | skip
    obtain ⟨hd,hend⟩:=h5
    obtain ⟨θ,p',st',hnd,hlt,hlen,hp,hblk,hr⟩:=hend
    obtain ⟨⟨x,hx⟩,_⟩:=hr
    cases hx
 refine wpS_seq (wpS_region ?_)
 have hex:(execOp (({ tmps:=vs ++ Array.replicate (fn.ntmps - vs.size) undef,defers:=[] }:Act).eval) { dst:=some t,op:=.call { callee:=.builtin .recover,args:=#[],argTypes:=#[] },type:=ty,pos:=pos,after:=af,guard:=none }).run C.P V.w=.ok .recover V.w:=rfl
 show wpOpsS C.P _ _ [0] _ _ _
 have hc:c₀={ c₀ with mode:=u }:=by subst hmode;rfl
 cases pm with
 | none =>
   obtain rfl:u=.returning:=hu
   have hrec:recoverD (c₀::cs)=none:=by simp [recoverD,hmode]
   have:=go .nilIface .returning .niliface rfl
   rw [←hc] at this
   simp only [wpOpsS,List.getElem?_toArray,List.getElem?_cons_zero,Region.wanted,hex,hrec]
   exact this
 | some p =>
   obtain ⟨v,rfl,hv⟩:=hu
   have hrec:recoverD (c₀::cs)=some (v,{ c₀ with mode:=.panicking [{ v,recovered:=true }] }::cs):=by simp [recoverD,hmode]
   have:=go v (.panicking [{ v,recovered:=true }]) hv rfl
   simp only [wpOpsS,List.getElem?_toArray,List.getElem?_cons_zero,Region.wanted,hex,hrec]
   exact this

/-- A function value is made, and its call deferred. -/
theorem WC.dfr {id t:Nat} {g:FuncId} {caps:List Operand} {T1 T2:TypeId} {p1 p2:String} {a1 a2:Array Edge} {y:Code} {e:Env} {o l:List Blk} {Q:AEx→St→Prop} {ats:Array TypeId} (ht:t < n)
  (h:WC C n y ⟨(t,.fn (.func g) [] (caps.map (val e)))::e,o,l,[⟨g,[],caps.map (val e)⟩]⟩ Q) :
  WC C n (.seq (.region id #[{ dst:=some t,op:=.makeFunc (.func g) #[] caps.toArray,type:=T1,pos:=p1,after:=a1,guard:=none },{ dst:=none,op:=.defer { callee:=.value (.tmp t),args:=#[],argTypes:=ats },type:=T2,pos:=p2,after:=a2,guard:=none }] false) y) ⟨e,o,l,[]⟩ Q:=fun V a hR=>by
 have hcaps:Ca V (caps.map (val e)) (caps.map a.eval).toArray:=⟨by simp,fun j p hp=>by
  simp only [List.getElem?_map,Option.map_eq_some_iff] at hp
  obtain ⟨x,hx,rfl⟩:=hp
  have hlt:j < caps.length:=(List.getElem?_eq_some_iff.1 hx).1
  have:(caps.map a.eval).toArray.getD j undef=a.eval x:=by
   rw [Array.getD_eq_getD_getElem?]
   simp [List.getElem?_map,hx]
  rw [this]
  exact Bp hR x⟩
 have hfn:Rep V (.fn (.func g) [] (caps.map (val e))) (.func (.func g) #[] (caps.map a.eval).toArray):=.fn rfl hcaps.1 (fun j c hc=>by simp at hc) hcaps.2
 have hR1:=Fk hR hfn (some t)
 rw [show St.put ⟨e,o,l,[]⟩ n (some t) (.fn (.func g) [] (caps.map (val e)))=⟨(t,.fn (.func g) [] (caps.map (val e)))::e,o,l,[]⟩ by rw [Le,if_pos ht]] at hR1
 have hR2:Rel C n V ⟨(t,.fn (.func g) [] (caps.map (val e)))::e,o,l,[⟨g,[],caps.map (val e)⟩]⟩ { (a.put (some t) (.func (.func g) #[] (caps.map a.eval).toArray)) with defers:={ target:=.fn (.func g) (caps.map a.eval).toArray,args:=#[] }::(a.put (some t) (.func (.func g) #[] (caps.map a.eval).toArray)).defers }:=by
  refine ⟨hR1.mem,hR1.env,hR1.tmps,?_⟩
  have hd:(a.put (some t) (.func (.func g) #[] (caps.map a.eval).toArray)).defers=[]:=by
   have:=hR1.defers
   cases hdd:(a.put (some t) (.func (.func g) #[] (caps.map a.eval).toArray)).defers with
   | nil=>rfl
   | cons=>rw [hdd] at this;exact this.elim
  rw [hd]
  exact ⟨⟨_,_,rfl,⟨rfl,fun j p hp=>by simp at hp⟩,hcaps⟩,trivial⟩
 have hy:=h V _ hR2
 refine wp_seq (wp_region ?_)
 show wpOps C.P _ _ [0,1] a V.w
 have x1:(execOp a.eval { dst:=some t,op:=.makeFunc (.func g) #[] caps.toArray,type:=T1,pos:=p1,after:=a1,guard:=none }).run C.P V.w=.ok (.value (.func (.func g) #[] (caps.map a.eval).toArray)) V.w:=by
  show (do pure (Next.value (← Instr.makeFunc (.func g) ((#[]:Array Operand).map a.eval) (caps.toArray.map a.eval))):Sem Next).run C.P V.w=_
  simp [Instr.makeFunc]
 have htm:(a.put (some t) (.func (.func g) #[] (caps.map a.eval).toArray)).eval (.tmp t)=.func (.func g) #[] (caps.map a.eval).toArray:=by
  show (a.tmps.setIfInBounds t _).getD t undef=_
  rw [Lj _ _ _ _ _ (by rw [hR.tmps];exact ht),if_pos rfl]
 have x2:(execOp (a.put (some t) (.func (.func g) #[] (caps.map a.eval).toArray)).eval { dst:=none,op:=.defer { callee:=.value (.tmp t),args:=#[],argTypes:=ats },type:=T2,pos:=p2,after:=a2,guard:=none }).run C.P V.w =
   .ok (.defer { target:=.fn (.func g) (caps.map a.eval).toArray,args:=#[] }) V.w:=by
  show (do pure (Next.defer (← resolve (a.put (some t) (.func (.func g) #[] (caps.map a.eval).toArray)).eval { callee:=.value (.tmp t),args:=#[],argTypes:=ats } T2)):Sem Next).run C.P V.w=_
  simp [resolve,htm,Deferred.ofValue]
 refine H7 (o:={ dst:=some t,op:=.makeFunc (.func g) #[] caps.toArray,type:=T1,pos:=p1,after:=a1,guard:=none }) rfl rfl (Co x1 ?_)
 refine H7 (o:={ dst:=none,op:=.defer { callee:=.value (.tmp t),args:=#[],argTypes:=ats },type:=T2,pos:=p2,after:=a2,guard:=none }) rfl rfl ?_
 unfold Oper.wp
 rw [x2,Oper.upon_defer]
 exact wp_mono hy fun _ _ _ h=>h
end Go.V
namespace Go.V
open Go

variable {C:Ctx} {n:Nat}

/-- A state is told anew: all that is to be seen. -/
theorem Conv.all {σ σ':St} {θ:List Nat} (h:R5 (thF θ σ.l.length) σ.e σ'.e∧σ.o=σ'.o.map (Cu (thF θ σ.l.length))∧pick σ.l θ=some (σ'.l.map (Cu (thF θ σ.l.length))))
  (nd:θ.Nodup:=by decide) (hd:σ.d=σ'.d.map (renD (thF θ σ.l.length)):=by rfl):Conv σ σ' θ:=⟨nd,h.1,h.2.1,h.2.2,hd⟩
/-- The equations for that. -/
theorem EC:type_of% (And.intro EV (And.intro EB (And.intro EL (And.intro ER (And.intro ET (And.intro true_and (And.intro and_true and_self))))))):=And.intro EV (And.intro EB (And.intro EL (And.intro ER (And.intro ET (And.intro true_and (And.intro and_true and_self))))))
theorem EY:type_of% (And.intro ET EX):=And.intro ET EX
/-- The ends of functions. -/
theorem EF:(∀ (C:Ctx) fn R σ,FnQ C fn R .ret σ=(σ.d=[]∧E3 C σ fn.results.toList [] fun ps=>EndsIn σ (tup ps) fun p st=>R (.ret p) st))∧(∀ (C:Ctx) fn R σ,FnQ C fn R .normal σ=(σ.d=[]∧E3 C σ fn.results.toList [] fun ps=>EndsIn σ (tup ps) fun p st=>R (.ret p) st)) ∧
  (∀ (C:Ctx) σ acc K,E3 C σ [] acc K=K acc.reverse)∧(∀ (C:Ctx) σ t r acc K,E3 C σ (.tmp t::r) acc K=E3 C σ r (gt σ.e t::acc) K) ∧
  (∀ (C:Ctx) σ t ty r acc K,E3 C σ (.cell t ty::r) acc K=Ia C ty (gt σ.e t) σ fun q=>E3 C σ r (q::acc) K)∧(∀ p,tup [p]=p)∧(tup []=.tuple [])∧(∀ p q r,tup (p::q::r)=.tuple (p::q::r))∧(∀ (a:PVal) l,(a::l).reverse=l.reverse ++ [a])∧(([]:List PVal).reverse=[])∧(∀ p,(True∧p)=p)∧(∀ (l:List PVal),[] ++ l=l)∧(∀ (a:PVal) l m,(a::l) ++ m=a::(l ++ m)) :=
 ⟨fun _ _ _ _=>rfl,fun _ _ _ _=>rfl,fun _ _ _ _=>rfl,fun _ _ _ _ _ _=>rfl,fun _ _ _ _ _ _ _=>rfl,fun _=>rfl,rfl,fun _ _ _=>rfl,fun _ _=>List.reverse_cons,rfl,fun _=>true_and _,fun _=>rfl,fun _ _ _=>rfl⟩
end Go.V
