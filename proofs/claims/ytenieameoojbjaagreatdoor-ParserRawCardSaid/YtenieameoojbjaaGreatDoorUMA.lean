/-
 Texts joined: NatA NatB NatC NatD.
-/

set_option linter.unusedVariables false
set_option linter.unusedSimpArgs false
set_option linter.loopingSimpArgs false
namespace Go.Num

def B:Nat:=4294967296
def Ai:List Nat→Nat
 | []=>0
 | x::xs=>x + B * Ai xs
def lim (l:List Nat):Prop:=∀ x∈l,x < B
theorem Bz:0 < B:=by decide
theorem lim_nil:lim []:=fun x h=>by cases h
theorem lim_cons {x:Nat} {l:List Nat}:lim (x::l)↔x < B∧lim l:=by simp [lim]
theorem lim_append {a b:List Nat}:lim (a ++ b)↔lim a∧lim b:=by
 simp only [lim,List.mem_append]
 exact ⟨fun h=>⟨fun x hx=>h x (.inl hx),fun x hx=>h x (.inr hx)⟩,fun h x hx=>hx.elim (h.1 x) (h.2 x)⟩
theorem Gk {l:List Nat} (h:lim l) (n:Nat):lim (l.take n):=fun x hx=>h x (List.mem_of_mem_take hx)
theorem Rn {l:List Nat} (h:lim l) (n:Nat):lim (l.drop n):=fun x hx=>h x (List.mem_of_mem_drop hx)
theorem I4 {l:List Nat} {i:Nat} (h:i < l.length):l.getD i 0=l[i]:=by simp [List.getD_eq_getElem?_getD,h]
theorem Be {l:List Nat} (h:lim l) (i:Nat):l.getD i 0 < B:=by
 rw [List.getD_eq_getElem?_getD]
 cases hq:l[i]? with
 | none=>exact Bz
 | some x=>exact h x (List.mem_of_getElem? hq)

theorem Ej (a b:List Nat):Ai (a ++ b)=Ai a + B ^ a.length * Ai b:=by
 induction a with
 | nil=>simp [Ai]
 | cons x a ih =>
   simp only [List.cons_append,Ai,ih,List.length_cons,Nat.pow_succ]
   rw [Nat.mul_add,← Nat.add_assoc,← Nat.mul_assoc,Nat.mul_comm B (B ^ a.length)]
theorem Ck {l:List Nat} (h:lim l):Ai l < B ^ l.length:=by
 induction l with
 | nil=>simp [Ai]
 | cons x l ih =>
   obtain ⟨h1,h2⟩:=lim_cons.1 h
   have:=ih h2
   simp only [Ai,List.length_cons,Nat.pow_succ]
   have e:B * Ai l + B≤B ^ l.length * B:=by
    rw [Nat.mul_comm (B ^ l.length) B,← Nat.mul_succ]
    exact Nat.mul_le_mul_left B this
   omega
theorem G7 (n:Nat):Ai (List.replicate n 0)=0:=by
 induction n with
 | zero=>rfl
 | succ n ih=>simp [List.replicate_succ,Ai,ih]
theorem Sz (l:List Nat) (i:Nat):Ai l=Ai (l.take i) + B ^ (l.take i).length * Ai (l.drop i):=by
 conv=>lhs;rw [←List.take_append_drop i l]
 exact Ej _ _
theorem Dc {l:List Nat} {i:Nat} (h:i≤l.length):Ai l=Ai (l.take i) + B ^ i * Ai (l.drop i):=by
 rw [Sz l i,List.length_take,Nat.min_eq_left h]
theorem Mb {l:List Nat} {i:Nat} (h:i < l.length):Ai (l.take (i + 1))=Ai (l.take i) + B ^ i * l.getD i 0:=by
 rw [List.take_succ_eq_append_getElem h,Ej,List.length_take,Nat.min_eq_left (Nat.le_of_lt h)]
 simp [Ai,List.getD_eq_getElem?_getD,h]
theorem Hc {l:List Nat} {i:Nat} (h:i < l.length):Ai (l.drop i)=l.getD i 0 + B * Ai (l.drop (i + 1)):=by
 rw [List.drop_eq_getElem_cons h]
 simp [Ai,List.getD_eq_getElem?_getD,h]
theorem val_take_le (l:List Nat) (i:Nat):Ai (l.take i)≤Ai l:=by rw [Sz l i];omega

/-- The limbs of a number. -/
def toL (n:Nat):List Nat:=if h:n=0 then [] else n % B::toL (n / B)
termination_by n
decreasing_by exact Nat.div_lt_self (by omega) (by decide)
theorem Cq:toL 0=[]:=by unfold toL;simp
theorem Iy {n:Nat} (h:n≠0):toL n=n % B::toL (n / B):=by conv=>lhs;unfold toL;rw [dif_neg h]
theorem Br (n:Nat):Ai (toL n)=n:=by
 induction n using Nat.strongRecOn with
 | _ n ih =>
   by_cases h:n=0
   ·subst h;rw [Cq];rfl
   ·rw [Iy h,Ai,ih (n / B) (Nat.div_lt_self (by omega) (by decide))]
    exact Nat.mod_add_div n B
theorem Bo (n:Nat):lim (toL n):=by
 induction n using Nat.strongRecOn with
 | _ n ih =>
   by_cases h:n=0
   ·subst h;rw [Cq];exact lim_nil
   ·rw [Iy h]
    exact lim_cons.2 ⟨Nat.mod_lt _ Bz,ih (n / B) (Nat.div_lt_self (by omega) (by decide))⟩
/-- No zero limb at the end. -/
def nrm (l:List Nat):Prop:=∀ x,l.getLast? = some x→x≠0
theorem nrm_toL (n:Nat):nrm (toL n):=by
 induction n using Nat.strongRecOn with
 | _ n ih =>
   intro x hx
   by_cases h:n=0
   ·subst h;rw [Cq] at hx;cases hx
   ·rw [Iy h] at hx
    by_cases h2:n / B=0
    ·rw [h2,Cq] at hx
     simp at hx
     have:=Nat.mod_add_div n B
     rw [h2] at this
     omega
    ·rw [Iy h2,List.getLast?_cons_cons,← Iy h2] at hx
     exact ih (n / B) (Nat.div_lt_self (by omega) (by decide)) x hx
theorem P5 {l:List Nat} (hl:lim l) (hn:nrm l):toL (Ai l)=l:=by
 induction l with
 | nil=>exact Cq
 | cons x l ih =>
   obtain ⟨h1,h2⟩:=lim_cons.1 hl
   have hn':nrm l:=fun y hy=>by
    cases l with
    | nil=>cases hy
    | cons z l=>exact hn y (by rw [List.getLast?_cons_cons];exact hy)
   have h0:Ai (x::l)≠0:=by
    intro h0
    simp only [Ai] at h0
    have hx:x=0:=by omega
    have hv:Ai l=0:=by
     have:B * Ai l=0:=by omega
     rcases Nat.mul_eq_zero.1 this with h | h
     ·exact absurd h (by decide)
     ·exact h
    have:=ih h2 hn'
    rw [hv,Cq] at this
    subst this
    exact hn x rfl hx
   rw [Iy h0]
   simp only [Ai]
   rw [Nat.add_mul_mod_self_left,Nat.mod_eq_of_lt h1,Nat.add_mul_div_left _ _ Bz,Nat.div_eq_of_lt h1,Nat.zero_add,ih h2 hn']
theorem val_inj {a b:List Nat} (ha:lim a) (hb:lim b) (na:nrm a) (nb:nrm b) (h:Ai a=Ai b):a=b:=by
 rw [←P5 ha na,← P5 hb nb,h]
theorem toL_eq_nil {n:Nat}:toL n=[]↔n=0:=by
 constructor
 ·intro h
  have:=Br n
  rw [h] at this
  exact this.symm
 ·rintro rfl;exact Cq
theorem Mq {n:Nat} (h0:n≠0) (h:n < B):toL n=[n]:=by
 rw [Iy h0,Nat.mod_eq_of_lt h,Nat.div_eq_of_lt h,Cq]
theorem Ph {n:Nat} (h:n≠0):(toL n).getD ((toL n).length - 1) 0≠0:=by
 have hne:toL n≠[]:=fun e=>h (toL_eq_nil.1 e)
 have:=nrm_toL n ((toL n).getLast hne) (List.getLast?_eq_some_getLast hne)
 rwa [List.getLast_eq_getElem,← I4] at this
theorem Gl {n k:Nat} (h:n < B ^ k):(toL n).length≤k:=by
 induction k generalizing n with
 | zero=>simp at h;subst h;rw [Cq];simp
 | succ k ih =>
   by_cases h0:n=0
   ·subst h0;rw [Cq];simp
   ·rw [Iy h0,List.length_cons]
    have:n / B < B ^ k:=by
     rw [Nat.div_lt_iff_lt_mul Bz];rwa [Nat.pow_succ] at h
    have:=ih this
    omega
theorem Ro {n k:Nat} (h:k < (toL n).length):B ^ k≤n:=by
 rcases Nat.lt_or_ge n (B ^ k) with h' | h'
 ·have:=Gl h';omega
 ·exact h'
theorem Nu {m n:Nat} (h:m≤n):(toL m).length≤(toL n).length:=by
 rcases Nat.lt_or_ge (toL n).length (toL m).length with h' | h'
 ·have h1:=Ro h'
  have h2:=Ck (Bo n)
  rw [Br] at h2
  omega
 ·exact h'

/-- The list up to the last limb that is not zero. -/
theorem H0 {l:List Nat} {k:Nat} (hl:lim l) (hk:k≤l.length) (hz:∀ j,k≤j→l.getD j 0=0) (hn:k=0∨l.getD (k - 1) 0≠0):l.take k=toL (Ai l):=by
 have hd:Ai (l.drop k)=0:=by
  have:l.drop k=List.replicate (l.length - k) 0:=by
   apply List.ext_getElem
   ·simp
   ·intro i h1 h2
    have:=hz (k + i) (by omega)
    simp only [List.length_drop] at h1
    rw [I4 (by omega)] at this
    simp [this]
  rw [this,G7]
 have hv:Ai l=Ai (l.take k):=by rw [Dc hk,hd];omega
 rw [hv]
 refine (P5 (Gk hl k) fun x hx=>?_).symm
 rcases hn with rfl | hn
 ·simp at hx
 ·have hk0:k≠0:=fun h=>by subst h;simp at hx
  rw [List.getLast?_eq_getElem?,List.length_take,Nat.min_eq_left hk,List.getElem?_take,if_pos (by omega)] at hx
  rw [List.getD_eq_getElem?_getD,hx] at hn
  exact hn

/-! ### comparison, from the top -/
theorem Qk {a b:Nat} (h:(toL a).length < (toL b).length):a < b:=by
 rcases Nat.lt_or_ge a b with h' | h'
 ·exact h'
 ·have:=Nu h';omega
theorem Vb {a b:List Nat} {i:Nat} (ha:lim a) (hi:i < a.length) (hlen:a.length=b.length) (hup:a.drop (i + 1)=b.drop (i + 1)) (h:a.getD i 0 < b.getD i 0):Ai a < Ai b:=by
 rw [Dc (l:=a) (i:=i) (by omega),Dc (l:=b) (i:=i) (by omega),Hc hi,Hc (l:=b) (by omega),hup]
 have h1:=Ck (Gk ha i)
 rw [List.length_take,Nat.min_eq_left (by omega)] at h1
 generalize Ai (b.drop (i + 1))=w
 have h2:B ^ i * (a.getD i 0 + B * w) + B ^ i≤B ^ i * (b.getD i 0 + B * w):=by
  rw [←Nat.mul_succ];exact Nat.mul_le_mul_left _ (by omega)
 omega
end Go.Num
namespace Go.Num

theorem Aq (l:List Nat) (i:Nat):Ai (l.take (i + 1))=Ai (l.take i) + B ^ i * l.getD i 0:=by
 rcases Nat.lt_or_ge i l.length with h | h
 ·exact Mb h
 ·rw [List.take_of_length_le (by omega),List.take_of_length_le h]
  simp [List.getD_eq_getElem?_getD,List.getElem?_eq_none h]
theorem A5 {l:List Nat} {i:Nat} (h:l.length≤i):Ai (l.take i)=Ai l:=by rw [List.take_of_length_le h]
theorem Lu {l:List Nat} {i:Nat} (h:i < l.length) (x:Nat):(l.set i x).take (i + 1)=l.take i ++ [x]:=by
 rw [List.take_succ_eq_append_getElem (by simpa using h),List.take_set_of_le (Nat.le_refl _)]
 simp
theorem getD_set_eq {l:List Nat} {i:Nat} (h:i < l.length) (x:Nat):(l.set i x).getD i 0=x:=by simp [List.getD_eq_getElem?_getD,h]
theorem getD_set_ne {l:List Nat} {i j:Nat} (h:i≠j) (x:Nat):(l.set i x).getD j 0=l.getD j 0:=by simp [List.getD_eq_getElem?_getD,h]
theorem Cl {l:List Nat} {i n:Nat} (h:n≤i) (x:Nat):(l.set i x).take n=l.take n:=List.take_set_of_le h
theorem Dw {l:List Nat} {i n:Nat} (h:i < n) (x:Nat):(l.set i x).drop n=l.drop n:=List.drop_set_of_lt h
theorem Cr {l:List Nat} (hl:lim l) (i:Nat) {x:Nat} (hx:x < B):lim (l.set i x):=fun y hy=>by
 rcases List.mem_or_eq_of_mem_set hy with h | h
 ·exact hl y h
 ·rw [h];exact hx

/-! ### the estimate
 V: the divisor,n ≥ 2 limbs,the first at least half of B;U: n + 1 limbs of what is left,less than B * V. -/
structure Est (U V n top second first u2:Nat):Prop where
 n2:2≤n
 ht:B / 2≤top
 htB:top < B
 hs:second < B
 hu2:u2 < B
 V1:(top * B + second) * B ^ (n - 2)≤V
 V2:V < (top * B + second + 1) * B ^ (n - 2)
 U1:(first * B + u2) * B ^ (n - 2)≤U
 U2:U < (first * B + u2 + 1) * B ^ (n - 2)
 UV:U < B * V

theorem Est.Vpos {U V n top second first u2:Nat} (E:Est U V n top second first u2):0 < V:=by
 refine Nat.lt_of_lt_of_le ?_ E.V1
 have h1:=E.ht
 have:0 < top:=Nat.lt_of_lt_of_le (by decide) h1
 refine Nat.mul_pos ?_ (Nat.pow_pos Bz)
 have:=Nat.mul_pos this Bz
 omega
theorem Est.first_le {U V n top second first u2:Nat} (E:Est U V n top second first u2):first < B * (top + 1):=by
 -- first * B * B^(n-2)≤U < B * V < B * (top + 1) * B * B^(n-2)
 have hp:0 < B ^ (n - 2):=Nat.pow_pos Bz
 have h1:first * B * B ^ (n - 2)≤U:=Nat.le_trans (Nat.mul_le_mul_right _ (by omega)) E.U1
 have h2:V < (top + 1) * B * B ^ (n - 2):=Nat.lt_of_lt_of_le E.V2 (Nat.mul_le_mul_right _ (by rw [Nat.add_mul];have:=E.hs;omega))
 have h3:first * B * B ^ (n - 2) < B * ((top + 1) * B * B ^ (n - 2)) :=
  Nat.lt_of_le_of_lt h1 (Nat.lt_trans E.UV (Nat.mul_lt_mul_of_pos_left h2 Bz))
 rw [←Nat.mul_assoc,← Nat.mul_assoc] at h3
 have h4:=Nat.lt_of_mul_lt_mul_right h3
 exact Nat.lt_of_mul_lt_mul_right h4
/-- What the loop keeps. -/
structure EstL (U V top first g r:Nat):Prop where
 eq:g * top + r=first
 ge:U / V≤g
theorem Est.start {U V n top second first u2:Nat} (E:Est U V n top second first u2):EstL U V top first (first / top) (first % top):=by
 have ht:0 < top:=Nat.lt_of_lt_of_le (by decide) E.ht
 refine ⟨by rw [Nat.mul_comm];exact Nat.div_add_mod first top,?_⟩
 rw [Nat.le_div_iff_mul_le ht]
 -- (U / V) * top≤first
 have hp:0 < B ^ (n - 2):=Nat.pow_pos Bz
 have h1:U / V * (top * B * B ^ (n - 2))≤U:=Nat.le_trans (Nat.mul_le_mul_left _ (Nat.le_trans (Nat.mul_le_mul_right _ (by omega)) E.V1)) (Nat.div_mul_le_self U V)
 have h2:U < (first + 1) * B * B ^ (n - 2):=Nat.lt_of_lt_of_le E.U2 (Nat.mul_le_mul_right _ (by rw [Nat.add_mul];have:=E.hu2;omega))
 have h3:=Nat.lt_of_le_of_lt h1 h2
 rw [←Nat.mul_assoc,← Nat.mul_assoc] at h3
 have h4:=Nat.lt_of_mul_lt_mul_right (Nat.lt_of_mul_lt_mul_right h3)
 omega
theorem Est.q_lt {U V n top second first u2:Nat} (E:Est U V n top second first u2):U / V < B:=by
 rw [Nat.div_lt_iff_lt_mul E.Vpos];exact E.UV
theorem Est.g_le {U V n top second first u2 g r:Nat} (E:Est U V n top second first u2) (L:EstL U V top first g r):g≤B + 1:=by
 have h1:=E.first_le
 have h2:=L.eq
 have ht:B / 2≤top:=E.ht
 rcases Nat.lt_or_ge (B + 1) g with h | h
 ·exfalso
  have:(B + 2) * top≤g * top:=Nat.mul_le_mul_right _ h
  rw [Nat.add_mul] at this
  rw [Nat.mul_add] at h1
  have:B≤2 * top:=by have:B=2 * (B / 2):=by decide
                     omega
  omega
 ·exact h
/-- A step downwards, where the estimate is too great for sure. -/
theorem Est.step {U V n top second first u2 g r:Nat} (E:Est U V n top second first u2) (L:EstL U V top first g r) (h:B≤g∨r * B + u2 < g * second):EstL U V top first (g - 1) (r + top)∧0 < g:=by
 have hq:=E.q_lt
 have hgt:U / V < g:=by
  rcases h with h | h
  ·exact Nat.lt_of_lt_of_le hq h
  ·rcases Nat.lt_or_ge (U / V) g with h' | h'
   ·exact h'
   ·exfalso
    have hp:0 < B ^ (n - 2):=Nat.pow_pos Bz
    have h1:g * ((top * B + second) * B ^ (n - 2))≤U:=Nat.le_trans (Nat.mul_le_mul h' E.V1) (Nat.div_mul_le_self U V)
    have h2:=Nat.lt_of_le_of_lt h1 E.U2
    rw [←Nat.mul_assoc] at h2
    have h3:=Nat.lt_of_mul_lt_mul_right h2
    rw [Nat.mul_add,← Nat.mul_assoc,← L.eq,Nat.add_mul] at h3
    omega
 refine ⟨⟨?_,Nat.le_sub_one_of_lt hgt⟩,Nat.lt_of_le_of_lt (Nat.zero_le _) hgt⟩
 have:=L.eq
 rw [Nat.sub_mul,Nat.one_mul]
 have:top≤g * top:=Nat.le_mul_of_pos_left _ (Nat.lt_of_le_of_lt (Nat.zero_le _) hgt)
 omega
/-- The estimate is right, or one too great. -/
theorem Est.done {U V n top second first u2 g r:Nat} (E:Est U V n top second first u2) (L:EstL U V top first g r) (h:(g < B∧g * second≤r * B + u2)∨(B≤r∧g≤B)):U / V≤g∧g≤U / V + 1∧g < B:=by
 have hp:0 < B ^ (n - 2):=Nat.pow_pos Bz
 have hn:n - 2 + 1 + 1=n:=by have:=E.n2;omega
 rcases h with ⟨h1,h2⟩ | ⟨h1,h2⟩
 ·refine ⟨L.ge,?_,h1⟩
  -- g * V < U + V
  have e1:g * (top * B + second)≤first * B + u2:=by
   rw [Nat.mul_add,← Nat.mul_assoc,← L.eq,Nat.add_mul];omega
  have e2:g * ((top * B + second + 1) * B ^ (n - 2))≤U + g * B ^ (n - 2):=by
   rw [←Nat.mul_assoc,Nat.mul_add,Nat.mul_one,Nat.add_mul]
   exact Nat.add_le_add_right (Nat.le_trans (Nat.mul_le_mul_right _ e1) E.U1) _
  have e3:g * V≤U + g * B ^ (n - 2):=Nat.le_trans (Nat.mul_le_mul_left _ (Nat.le_of_lt E.V2)) e2
  have e4:g * B ^ (n - 2) < V:=by
   have:B * B ^ (n - 2)≤V:=by
    refine Nat.le_trans (Nat.mul_le_mul_right _ ?_) E.V1
    have:1 * B≤top * B:=Nat.mul_le_mul_right _ (by have:=E.ht;have:1≤B / 2:=by decide
                                                   omega)
    omega
   exact Nat.lt_of_lt_of_le (Nat.mul_lt_mul_of_pos_right h1 hp) this
  have e5:g * V < (U / V + 1 + 1) * V:=by
   have:=Nat.div_add_mod U V
   have hm:=Nat.mod_lt U E.Vpos
   rw [Nat.add_mul,Nat.add_mul,Nat.mul_comm (U / V) V,Nat.one_mul]
   omega
  have:=Nat.lt_of_mul_lt_mul_right e5
  omega
 ·-- g * V≤U
  have e1:g * (top + 1)≤first:=by
   have:=L.eq
   rw [Nat.mul_add,Nat.mul_one];omega
  have e2:g * V≤U:=by
   have:V≤(top + 1) * B * B ^ (n - 2):=Nat.le_of_lt (Nat.lt_of_lt_of_le E.V2 (Nat.mul_le_mul_right _ (by rw [Nat.add_mul];have:=E.hs;omega)))
   refine Nat.le_trans (Nat.mul_le_mul_left g this) (Nat.le_trans ?_ E.U1)
   rw [←Nat.mul_assoc,← Nat.mul_assoc]
   refine Nat.mul_le_mul_right _ (Nat.le_trans (Nat.mul_le_mul_right _ e1) (by omega))
  have e3:g≤U / V:=by rw [Nat.le_div_iff_mul_le E.Vpos];exact e2
  have:=E.q_lt
  exact ⟨L.ge,by omega,by omega⟩

/-- The limbs in question tell such an estimate. -/
theorem est_of {u v:List Nat} {n:Nat} (hu:lim u) (hv:lim v) (hn:v.length=n) (hn2:2≤n) (hul:u.length=n + 1) (ht:B / 2≤v.getD (n - 1) 0) (hUV:Ai u < B * Ai v) :
  Est (Ai u) (Ai v) n (v.getD (n - 1) 0) (v.getD (n - 2) 0) (u.getD n 0 * B + u.getD (n - 1) 0) (u.getD (n - 2) 0):=by
 have top2:∀ {l:List Nat} {m:Nat},lim l→2≤m→m≤l.length→(l.getD (m - 1) 0 * B + l.getD (m - 2) 0) * B ^ (m - 2)≤Ai (l.take m)∧Ai (l.take m) < (l.getD (m - 1) 0 * B + l.getD (m - 2) 0 + 1) * B ^ (m - 2):=fun {l m} hl h2 hm=>by
  obtain ⟨k,rfl⟩:∃ k,m=k + 2:=⟨m - 2,by omega⟩
  rw [Aq,Aq,show k + 2 - 1=k + 1 by omega,show k + 2 - 2=k by omega]
  have h:=Ck (Gk hl k)
  rw [List.length_take,Nat.min_eq_left (by omega)] at h
  rw [Nat.pow_succ,Nat.add_mul,Nat.add_mul,Nat.add_mul,Nat.one_mul,Nat.mul_comm (l.getD k 0),Nat.mul_assoc (l.getD (k + 1) 0),Nat.mul_comm (l.getD (k + 1) 0),Nat.mul_comm B (B ^ k)]
  omega
 obtain ⟨v1,v2⟩:=top2 hv hn2 (by omega)
 rw [A5 (by omega)] at v1 v2
 refine ⟨hn2,ht,Be hv _,Be hv _,Be hu _,v1,v2,?_,?_,hUV⟩
 all_goals
  have e:Ai u=Ai (u.take n) + B ^ n * u.getD n 0:=by rw [←Aq,A5 (by omega)]
  obtain ⟨u1,u2⟩:=top2 (l:=u) (m:=n) hu hn2 (by omega)
  rw [e]
  have e2:(u.getD n 0 * B + u.getD (n - 1) 0) * B * B ^ (n - 2)=B ^ n * u.getD n 0 + u.getD (n - 1) 0 * B * B ^ (n - 2):=by
   have e3:B ^ n=B * (B * B ^ (n - 2)):=by
    conv=>lhs;rw [show n=n - 2 + 1 + 1 by omega,Nat.pow_succ,Nat.pow_succ]
    rw [Nat.mul_comm _ B,Nat.mul_comm _ B]
   rw [e3,Nat.add_mul,Nat.add_mul,Nat.mul_comm (B * (B * B ^ (n - 2))),Nat.mul_assoc,Nat.mul_assoc]
  rw [Nat.add_mul] at u1
  rw [Nat.add_mul,Nat.add_mul] at u2
  simp only [Nat.add_mul] at e2 ⊢
  omega
end Go.Num
namespace Go.Num

/-- One step of the subtraction of g times v: the limb of u, its new limb, what is borrowed. -/
theorem sub_step {u v:List Nat} {i g carry bo u' c' bo':Nat} {w:List Nat} (h:Ai (w.take i) + g * Ai (v.take i)=Ai (u.take i) + (carry + bo) * B ^ i)
  (hw:(w.take (i + 1))=w.take i ++ [u']) (hwl:(w.take i).length=i) (he:u' + carry + g * v.getD i 0 + bo=u.getD i 0 + B * (c' + bo')) :
  Ai (w.take (i + 1)) + g * Ai (v.take (i + 1))=Ai (u.take (i + 1)) + (c' + bo') * B ^ (i + 1):=by
 rw [hw,Ej,hwl,Aq v,Aq u,Nat.pow_succ,Nat.mul_add g]
 have e1:g * (B ^ i * v.getD i 0)=B ^ i * (g * v.getD i 0):=by rw [Nat.mul_left_comm]
 have e2:B ^ i * (u' + carry + g * v.getD i 0 + bo)=B ^ i * u.getD i 0 + (c' + bo') * (B ^ i * B):=by
  rw [he,Nat.mul_add,Nat.mul_comm (c' + bo'),Nat.mul_assoc]
 have e3:B ^ i * (u' + carry + g * v.getD i 0 + bo)=B ^ i * u' + (carry + bo) * B ^ i + B ^ i * (g * v.getD i 0):=by
  rw [Nat.mul_add,Nat.mul_add,Nat.mul_add,Nat.add_mul,Nat.mul_comm carry,Nat.mul_comm bo];omega
 simp only [Ai,Nat.mul_zero,Nat.add_zero,List.append_nil]
 rw [e1]
 omega
theorem Zw {ui g d carry bo:Nat} (h1:ui < B) (h2:g < B) (h3:d < B) (h4:carry < B) (h5:bo≤1) :
  carry + g * d < B * B∧(carry + g * d) / B < B ∧
  ((carry + g * d) % B + bo≤ui→ui - (carry + g * d) % B - bo + carry + g * d + bo=ui + B * ((carry + g * d) / B + 0)) ∧
  (ui < (carry + g * d) % B + bo→ui + B - (carry + g * d) % B - bo + carry + g * d + bo=ui + B * ((carry + g * d) / B + 1)):=by
 have hm:g * d≤(B - 1) * (B - 1):=Nat.mul_le_mul (Nat.le_sub_one_of_lt h2) (Nat.le_sub_one_of_lt h3)
 have hb:carry + g * d < B * B:=by
  have:(B - 1) * (B - 1) + B≤B * B:=by decide
  omega
 have hd:=Nat.div_add_mod (carry + g * d) B
 have hmod:=Nat.mod_lt (carry + g * d) Bz
 refine ⟨hb,by rw [Nat.div_lt_iff_lt_mul Bz];exact hb,fun h=>?_,fun h=>?_⟩
 ·rw [Nat.add_zero];omega
 ·rw [Nat.mul_add,Nat.mul_one]
  have:(carry + g * d) % B + bo≤ui + B:=by omega
  omega
/-- The subtraction at its end: nothing is borrowed, or the estimate was one too great. -/
theorem Zx {U V W g n:Nat} {neg:Nat} (hV:0 < V) (hq:U / V≤g) (hg:g≤U / V + 1) (hW:W < B ^ (n + 1)) (hVn:V < B ^ n) (h:W + g * V=U + neg * B ^ (n + 1)) :
  (neg=0→g=U / V∧W=U % V)∧(neg=1→g=U / V + 1∧W + V=U % V + B ^ (n + 1)):=by
 have hd:=Nat.div_add_mod U V
 have hm:=Nat.mod_lt U hV
 refine ⟨fun hn=>?_,fun hn=>?_⟩
 ·subst hn
  have hg2:g=U / V:=by
   rcases Nat.lt_or_ge (U / V) g with h' | h'
   ·exfalso
    have:g=U / V + 1:=by omega
    rw [this,Nat.add_mul,Nat.one_mul,Nat.mul_comm] at h
    omega
   ·omega
  refine ⟨hg2,?_⟩
  rw [hg2,Nat.mul_comm] at h;omega
 ·subst hn
  have hg2:g=U / V + 1:=by
   rcases Nat.lt_or_ge (U / V) g with h' | h'
   ·omega
   ·exfalso
    have e:g=U / V:=by omega
    rw [e,Nat.mul_comm] at h
    have:V < B ^ (n + 1):=Nat.lt_of_lt_of_le hVn (Nat.pow_le_pow_right Bz (by omega))
    omega
  refine ⟨hg2,?_⟩
  rw [hg2,Nat.add_mul,Nat.one_mul,Nat.mul_comm] at h;omega
/-- The addition that takes the last subtraction back. -/
theorem back_step {u v:List Nat} {i carry u' c':Nat} {w:List Nat} (h:Ai (w.take i) + carry * B ^ i=Ai (u.take i) + Ai (v.take i))
  (hw:(w.take (i + 1))=w.take i ++ [u']) (hwl:(w.take i).length=i) (he:u' + B * c'=u.getD i 0 + v.getD i 0 + carry) :
  Ai (w.take (i + 1)) + c' * B ^ (i + 1)=Ai (u.take (i + 1)) + Ai (v.take (i + 1)):=by
 rw [hw,Ej,hwl,Aq v,Aq u,Nat.pow_succ]
 have e2:B ^ i * (u' + B * c')=B ^ i * u.getD i 0 + B ^ i * v.getD i 0 + carry * B ^ i:=by
  rw [he,Nat.mul_add,Nat.mul_add,Nat.mul_comm carry]
 have e3:B ^ i * (u' + B * c')=B ^ i * u' + c' * (B ^ i * B):=by
  rw [Nat.mul_add,Nat.mul_comm c',Nat.mul_assoc]
 simp only [Ai,Nat.mul_zero,Nat.add_zero]
 omega

/-! ### up and down by bits -/
theorem shl_step {o a:List Nat} {i k oi v:Nat} {o':List Nat} (h:Ai (o.take (i + 1))=Ai (a.take i) * 2 ^ k) (hoi:oi=o.getD i 0) (hv:v=a.getD i 0 * 2 ^ k)
  (ho:o'.take (i + 2)=o.take i ++ [oi + v % B,v / B]) (hl:i < o.length):Ai (o'.take (i + 1 + 1))=Ai (a.take (i + 1)) * 2 ^ k:=by
 have e:=Aq o i
 rw [ho,Ej,List.length_take,Nat.min_eq_left (Nat.le_of_lt hl),Aq a,Nat.add_mul]
 simp only [Ai,Nat.mul_zero,Nat.add_zero]
 rw [h,← hoi] at e
 have:=Nat.mod_add_div v B
 rw [Nat.add_assoc,this,Nat.mul_add,Nat.mul_assoc,← hv]
 omega
theorem shr_num {k x y:Nat} (hk:k≤31) (hx:x < B):2 ^ k * (((y * B + x) / 2 ^ k) % B) + x % 2 ^ k=x + B * (y % 2 ^ k):=by
 have hpos:0 < 2 ^ k:=Nat.pow_pos (by decide)
 obtain ⟨c,hc⟩:∃ c,B=2 ^ k * c:=⟨2 ^ (32 - k),by rw [←Nat.pow_add,show k + (32 - k)=32 by omega];rfl⟩
 have e1:(y * B + x) / 2 ^ k=y * c + x / 2 ^ k:=by
  rw [hc,← Nat.mul_assoc,Nat.mul_comm y,Nat.mul_assoc,Nat.mul_add_div hpos]
 have hxd:x / 2 ^ k < c:=by rw [Nat.div_lt_iff_lt_mul hpos,Nat.mul_comm,← hc];exact hx
 have e2:(y * c + x / 2 ^ k) % B=(y % 2 ^ k) * c + x / 2 ^ k:=by
  have hy:=Nat.div_add_mod y (2 ^ k)
  have:y * c + x / 2 ^ k=B * (y / 2 ^ k) + ((y % 2 ^ k) * c + x / 2 ^ k):=by
   conv=>lhs;rw [←hy]
   rw [hc,Nat.add_mul]
   have:2 ^ k * (y / 2 ^ k) * c=2 ^ k * c * (y / 2 ^ k):=by rw [Nat.mul_right_comm]
   omega
  rw [this,Nat.mul_add_mod]
  apply Nat.mod_eq_of_lt
  have h1:y % 2 ^ k + 1≤2 ^ k:=Nat.mod_lt y hpos
  have h2:(y % 2 ^ k + 1) * c≤2 ^ k * c:=Nat.mul_le_mul_right _ h1
  rw [Nat.add_mul,Nat.one_mul,← hc] at h2
  omega
 rw [e1,e2,Nat.mul_add,hc]
 have:=Nat.div_add_mod x (2 ^ k)
 have e3:2 ^ k * (y % 2 ^ k * c)=2 ^ k * c * (y % 2 ^ k):=by rw [Nat.mul_comm (y % 2 ^ k),Nat.mul_assoc]
 omega
theorem Wc {r u:List Nat} {i k:Nat} (hk:k≤31) (hu:lim u) (h:2 ^ k * Ai (r.take i) + u.getD 0 0 % 2 ^ k=Ai (u.take i) + B ^ i * (u.getD i 0 % 2 ^ k))
  (hr:r.getD i 0=((u.getD (i + 1) 0 * B + u.getD i 0) / 2 ^ k) % B) :
  2 ^ k * Ai (r.take (i + 1)) + u.getD 0 0 % 2 ^ k=Ai (u.take (i + 1)) + B ^ (i + 1) * (u.getD (i + 1) 0 % 2 ^ k):=by
 have hn:=shr_num (y:=u.getD (i + 1) 0) hk (Be hu i)
 rw [←hr] at hn
 rw [Aq,Aq,Nat.mul_add,Nat.pow_succ]
 have e:=congrArg (B ^ i * ·) hn
 simp only [Nat.mul_add] at e
 have e1:2 ^ k * (B ^ i * r.getD i 0)=B ^ i * (2 ^ k * r.getD i 0):=by rw [Nat.mul_left_comm]
 have e2:B ^ i * B * (u.getD (i + 1) 0 % 2 ^ k)=B ^ i * (B * (u.getD (i + 1) 0 % 2 ^ k)):=by rw [Nat.mul_assoc]
 omega

/-! ### the whole -/
/-- What holds where the limbs of the quotient from j on are found. -/
structure LongInv (u q:List Nat) (T V n j:Nat):Prop where
 lu:lim u
 eq:Ai u + V * Ai (q.drop j) * B ^ j=T
 lt:Ai (u.drop j) < V
theorem LongInv.start {u q:List Nat} {V n:Nat} (hu:lim u) (hq:q.length + n=u.length) (hlt:Ai (u.drop q.length) < V):LongInv u q (Ai u) V n q.length :=
 ⟨hu,by simp [Ai],hlt⟩
/-- The limbs in question. -/
theorem LongInv.seg {u q:List Nat} {T V n j:Nat} (h:LongInv u q T V n (j + 1)) (hV:V < B ^ n) (hj:j + n < u.length) :
  Ai ((u.drop j).take (n + 1))=Ai (u.drop j)∧Ai (u.drop j) < B * V:=by
 have hz:Ai ((u.drop j).drop (n + 1))=0:=by
  rw [List.drop_drop,show j + (n + 1)=(j + 1) + n by omega,← List.drop_drop]
  have h1:=Dc (l:=u.drop (j + 1)) (i:=n) (by simp;omega)
  have h2:=h.lt
  rcases Nat.eq_zero_or_pos (Ai ((u.drop (j + 1)).drop n)) with h0 | h0
  ·exact h0
  ·exfalso
   have:=Nat.le_mul_of_pos_right (B ^ n) h0
   omega
 refine ⟨?_,?_⟩
 ·rw [Dc (l:=u.drop j) (i:=n + 1) (by simp;omega),hz,Nat.mul_zero];rfl
 ·rw [Hc (by omega)]
  have:=Be h.lu j
  have h3:=Nat.mul_le_mul_left B (Nat.succ_le_of_lt h.lt)
  rw [Nat.mul_succ] at h3
  omega
theorem LongInv.step {u q u':List Nat} {T V n j:Nat} (h:LongInv u q T V n (j + 1)) (hV0:0 < V) (hV:V < B ^ n) (hj:j + n < u.length) (hq:j < q.length) (hu':lim u')
  (hlo:u'.take j=u.take j) (hhi:u'.drop (j + n + 1)=u.drop (j + n + 1)) (hl:u'.length=u.length) (hseg:Ai ((u'.drop j).take (n + 1))=Ai ((u.drop j).take (n + 1)) % V) :
  LongInv u' (q.set j (Ai ((u.drop j).take (n + 1)) / V)) T V n j:=by
 obtain ⟨s1,s2⟩:=h.seg hV hj
 have hz:Ai (u.drop (j + n + 1))=0:=by
  have h1:=Dc (l:=u.drop j) (i:=n + 1) (by simp;omega)
  rw [s1,List.drop_drop,show j + (n + 1)=j + n + 1 by omega] at h1
  have hp:0 < B ^ (n + 1):=Nat.pow_pos Bz
  rcases Nat.eq_zero_or_pos (Ai (u.drop (j + n + 1))) with h0 | h0
  ·exact h0
  ·have:0 < B ^ (n + 1) * Ai (u.drop (j + n + 1)):=Nat.mul_pos hp h0
   omega
 have hd':Ai (u'.drop j)=Ai (u.drop j) % V:=by
  rw [Dc (l:=u'.drop j) (i:=n + 1) (by simp;omega),List.drop_drop,show j + (n + 1)=j + n + 1 by omega,hhi,hz,hseg,s1,Nat.mul_zero,Nat.add_zero]
 refine ⟨hu',?_,by rw [hd'];exact Nat.mod_lt _ hV0⟩
 have e1:Ai u'=Ai (u.take j) + B ^ j * (Ai (u.drop j) % V):=by rw [Dc (l:=u') (i:=j) (by omega),hlo,hd']
 have e2:Ai u=Ai (u.take j) + B ^ j * Ai (u.drop j):=Dc (by omega)
 have e3:(q.set j (Ai ((u.drop j).take (n + 1)) / V)).drop j=(Ai ((u.drop j).take (n + 1)) / V)::q.drop (j + 1):=by
  rw [List.drop_eq_getElem_cons (by simpa using hq),List.getElem_set_self,List.drop_set_of_lt (by omega)]
 have h0:=h.eq
 rw [e1,e3,s1]
 simp only [Ai]
 rw [e2] at h0
 have hm:=Nat.div_add_mod (Ai (u.drop j)) V
 rw [←h0,Nat.pow_succ,Nat.mul_add,Nat.add_mul]
 have e4:B ^ j * Ai (u.drop j)=V * (Ai (u.drop j) / V) * B ^ j + B ^ j * (Ai (u.drop j) % V):=by
  conv=>lhs;rw [←hm]
  rw [Nat.mul_add,Nat.mul_comm (B ^ j) (V * _)]
 have e5:V * (B * Ai (q.drop (j + 1))) * B ^ j=V * Ai (q.drop (j + 1)) * (B ^ j * B):=by
  rw [Nat.mul_comm B,← Nat.mul_assoc,Nat.mul_assoc (V * _),Nat.mul_comm B]
 omega
theorem LongInv.done {u q:List Nat} {T V n:Nat} (h:LongInv u q T V n 0):Ai q=T / V∧Ai u=T % V:=by
 have h1:=h.eq
 have h2:=h.lt
 rw [List.drop_zero] at h1 h2
 simp only [Nat.pow_zero,Nat.mul_one] at h1
 have hV:0 < V:=by omega
 rw [←h1]
 exact ⟨by rw [Nat.add_comm,Nat.mul_add_div hV,Nat.div_eq_of_lt h2,Nat.add_zero],by rw [Nat.add_comm,Nat.mul_add_mod,Nat.mod_eq_of_lt h2]⟩
theorem Tr (a b k:Nat):(a * 2 ^ k) / (b * 2 ^ k)=a / b∧(a * 2 ^ k) % (b * 2 ^ k)=a % b * 2 ^ k:=by
 have hp:0 < 2 ^ k:=Nat.pow_pos (by decide)
 exact ⟨Nat.mul_div_mul_right a b hp,Nat.mul_mod_mul_right _ _ _⟩
/-- The divisor, moved up so that its first limb is at least half of B. -/
theorem Wy {y k:Nat} (hk:k≤31) (h0:y≠0) (h1:B / 2≤(toL y).getD ((toL y).length - 1) 0 * 2 ^ k) (h2:(toL y).getD ((toL y).length - 1) 0 * 2 ^ k < B) :
  (toL (y * 2 ^ k)).length=(toL y).length∧B / 2≤(toL (y * 2 ^ k)).getD ((toL y).length - 1) 0:=by
 have hne:0 < (toL y).length:=List.length_pos_iff.2 fun e=>h0 (toL_eq_nil.1 e)
 obtain ⟨m,hm⟩:∃ m,(toL y).length=m + 1:=⟨(toL y).length - 1,by omega⟩
 rw [hm,Nat.add_sub_cancel] at h1 h2 ⊢
 have hp:0 < B ^ m:=Nat.pow_pos Bz
 have hp2:0 < 2 ^ k:=Nat.pow_pos (by decide)
 have e:=A5 (l:=toL y) (i:=m + 1) (by omega)
 rw [Br,Aq] at e
 have hlo:=Ck (Gk (Bo y) m)
 rw [List.length_take,Nat.min_eq_left (by omega)] at hlo
 generalize (toL y).getD m 0=t at *
 generalize Ai ((toL y).take m)=lo at *
 have hlow:t * 2 ^ k * B ^ m≤y * 2 ^ k:=by
  rw [←e,Nat.add_mul]
  have:B ^ m * t * 2 ^ k=t * 2 ^ k * B ^ m:=by rw [Nat.mul_comm (B ^ m),Nat.mul_right_comm]
  omega
 have hup:y * 2 ^ k < B ^ (m + 1):=by
  obtain ⟨c,hc⟩:∃ c,B=2 ^ k * c:=⟨2 ^ (32 - k),by rw [←Nat.pow_add,show k + (32 - k)=32 by omega];rfl⟩
  have h3:t + 1≤c:=by
   rw [hc,Nat.mul_comm] at h2
   exact Nat.lt_of_mul_lt_mul_left h2
  have h4:y < (t + 1) * B ^ m:=by
   rw [←e,Nat.add_mul,Nat.one_mul,Nat.mul_comm (B ^ m)];omega
  have h5:y * 2 ^ k < (t + 1) * B ^ m * 2 ^ k:=Nat.mul_lt_mul_of_pos_right h4 hp2
  have h6:(t + 1) * B ^ m * 2 ^ k≤c * B ^ m * 2 ^ k:=Nat.mul_le_mul_right _ (Nat.mul_le_mul_right _ h3)
  have h7:c * B ^ m * 2 ^ k=B ^ (m + 1):=by
   rw [Nat.pow_succ,Nat.mul_right_comm,Nat.mul_comm c,← hc,Nat.mul_comm]
  omega
 have hlen:(toL (y * 2 ^ k)).length=m + 1:=by
  have h3:=Gl hup
  rcases Nat.lt_or_ge (toL (y * 2 ^ k)).length (m + 1) with h | h
  ·exfalso
   have h4:=Ck (Bo (y * 2 ^ k))
   rw [Br] at h4
   have h5:B ^ (toL (y * 2 ^ k)).length≤B ^ m:=Nat.pow_le_pow_right Bz (by omega)
   have h6:1 * B ^ m≤t * 2 ^ k * B ^ m:=Nat.mul_le_mul_right _ (Nat.le_trans (by decide) h1)
   omega
  ·omega
 refine ⟨hlen,?_⟩
 have e2:=A5 (l:=toL (y * 2 ^ k)) (i:=m + 1) (by omega)
 rw [Br,Aq] at e2
 have hlo2:=Ck (Gk (Bo (y * 2 ^ k)) m)
 rw [List.length_take,Nat.min_eq_left (by omega)] at hlo2
 generalize (toL (y * 2 ^ k)).getD m 0=s at *
 generalize Ai ((toL (y * 2 ^ k)).take m)=lo2 at *
 have h8:B / 2 * B ^ m≤t * 2 ^ k * B ^ m:=Nat.mul_le_mul_right _ h1
 have h9:B / 2 * B ^ m < (s + 1) * B ^ m:=by
  rw [Nat.add_mul,Nat.one_mul,Nat.mul_comm s];omega
 have:=Nat.lt_of_mul_lt_mul_right h9
 omega
/-- The first limbs are less than the divisor, where the first of them is less than the divisor's first. -/
theorem top_lt {u v:List Nat} {m n:Nat} (hu:lim u) (hn:0 < n) (hv:v.length=n) (hul:u.length=m + n) (h:u.getD (m + n - 1) 0 < v.getD (n - 1) 0):Ai (u.drop m) < Ai v:=by
 obtain ⟨k,rfl⟩:∃ k,n=k + 1:=⟨n - 1,by omega⟩
 have e1:=A5 (l:=v) (i:=k + 1) (by omega)
 have e2:=A5 (l:=u.drop m) (i:=k + 1) (by simp;omega)
 rw [Aq] at e1 e2
 have hlo:=Ck (Gk (Rn hu m) k)
 rw [List.length_take,Nat.min_eq_left (by simp;omega)] at hlo
 have eg:(u.drop m).getD k 0=u.getD (m + (k + 1) - 1) 0:=by
  rw [List.getD_eq_getElem?_getD,List.getElem?_drop,← List.getD_eq_getElem?_getD,show m + (k + 1) - 1=m + k by omega]
 rw [eg] at e2
 rw [Nat.add_sub_cancel] at h
 rw [←e1,← e2]
 generalize u.getD (m + (k + 1) - 1) 0=s at *
 generalize v.getD k 0=t at *
 have:B ^ k * (s + 1)≤B ^ k * t:=Nat.mul_le_mul_left _ h
 rw [Nat.mul_add,Nat.mul_one] at this
 omega
end Go.Num
namespace Go.Num

/-- The number of i limbs from j on. -/
def seg (u:List Nat) (j i:Nat):Nat:=Ai ((u.drop j).take i)
theorem getD_drop (u:List Nat) (j i:Nat):(u.drop j).getD i 0=u.getD (j + i) 0:=by simp [List.getD_eq_getElem?_getD]
theorem Nk (u:List Nat) (j:Nat):seg u j 0=0:=by simp [seg,Ai]
theorem Ii (u:List Nat) (j i:Nat):seg u j (i + 1)=seg u j i + B ^ i * u.getD (j + i) 0:=by
 rw [seg,Aq,getD_drop];rfl
theorem Yd {u:List Nat} {j i p:Nat} (h:j + i≤p) (x:Nat):seg (u.set p x) j i=seg u j i:=by
 unfold seg
 congr 1
 apply List.ext_getElem?
 intro a
 rw [List.getElem?_take,List.getElem?_take]
 split
 ·rw [List.getElem?_drop,List.getElem?_drop,List.getElem?_set_ne (by omega)]
 ·rfl
theorem Lx {u:List Nat} {j i:Nat} (h:j + i < u.length) (x:Nat):seg (u.set (j + i) x) j (i + 1)=seg u j i + B ^ i * x:=by
 rw [Ii,Yd (Nat.le_refl _),getD_set_eq h]
theorem Uh {u:List Nat} (hu:lim u) (j i:Nat):seg u j i < B ^ i:=by
 have h:=Ck (Gk (Rn hu j) i)
 refine Nat.lt_of_lt_of_le h (Nat.pow_le_pow_right Bz ?_)
 simp;omega
theorem seg_of_drop {u w:List Nat} {j i:Nat} (h:w.drop j=u.drop j):seg w j i=seg u j i:=by unfold seg;rw [h]

theorem Ol {W G U d ui x carry bo c' bo' g P:Nat} (h:W + g * G=U + (carry + bo) * P) (he:x + carry + g * d + bo=ui + B * (c' + bo')) :
  (W + P * x) + g * (G + P * d)=(U + P * ui) + (c' + bo') * (P * B):=by
 have e2:P * (x + carry + g * d + bo)=P * ui + (c' + bo') * (P * B):=by
  rw [he,Nat.mul_add,Nat.mul_comm (c' + bo'),Nat.mul_assoc]
 have e1:g * (P * d)=P * (g * d):=by rw [Nat.mul_left_comm]
 rw [Nat.mul_add,Nat.mul_add,Nat.mul_add] at e2
 rw [Nat.add_mul,Nat.mul_comm carry,Nat.mul_comm bo] at h
 rw [Nat.mul_add,e1]
 omega
theorem M6 {W G U d ui x carry c' P:Nat} (h:W + carry * P=U + G) (he:x + B * c'=ui + d + carry):(W + P * x) + c' * (P * B)=(U + P * ui) + (G + P * d):=by
 have e2:P * (x + B * c')=P * (ui + d + carry):=by rw [he]
 rw [Nat.mul_add,Nat.mul_add,Nat.mul_add,← Nat.mul_assoc,Nat.mul_comm _ c',Nat.mul_comm P carry] at e2
 omega
/-- The last limb of the addition: what comes out of it is dropped. -/
theorem back_end {W S V R t c n:Nat} (hS:S < B ^ n) (ht:t < B) (hc:c≤1) (h0:W + V=R + B ^ (n + 1)) (h:S + B ^ n * (t + c)=W + V):(t + c) % B=0∧S=R:=by
 have e:t + c=B:=by
  rcases Nat.lt_or_ge (t + c) B with h' | h'
  ·exfalso
   have:B ^ n * (t + c + 1)≤B ^ n * B:=Nat.mul_le_mul_left _ h'
   rw [Nat.mul_add,Nat.mul_one] at this
   rw [Nat.pow_succ] at h0
   omega
  ·omega
 rw [e] at h ⊢
 rw [Nat.pow_succ] at h0
 exact ⟨Nat.mod_self _,by omega⟩
theorem W4 {u q v:List Nat} {T n j:Nat} (h:LongInv u q T (Ai v) n (j + 1)) (hv:lim v) (hn:v.length=n) (hn2:2≤n) (ht:B / 2≤v.getD (n - 1) 0) (hj:j + n < u.length) :
  Est (seg u j (n + 1)) (Ai v) n (v.getD (n - 1) 0) (v.getD (n - 2) 0) (u.getD (j + n) 0 * B + u.getD (j + n - 1) 0) (u.getD (j + n - 2) 0):=by
 have hV:Ai v < B ^ n:=by rw [←hn];exact Ck hv
 obtain ⟨s1,s2⟩:=h.seg hV hj
 have hlen:((u.drop j).take (n + 1)).length=n + 1:=by simp;omega
 have g:∀ i,i < n + 1→((u.drop j).take (n + 1)).getD i 0=u.getD (j + i) 0:=fun i hi=>by
  simp [List.getD_eq_getElem?_getD,List.getElem?_take,hi]
 have:=est_of (u:=(u.drop j).take (n + 1)) (v:=v) (Gk (Rn h.lu j) _) hv hn hn2 hlen ht (by rw [s1];exact s2)
 rw [g n (by omega),g (n - 1) (by omega),g (n - 2) (by omega),show j + (n - 1)=j + n - 1 by omega,show j + (n - 2)=j + n - 2 by omega] at this
 exact this
/-- What is left, moved down. -/
theorem Wr {u r:List Nat} {n k R:Nat} (hk:k≤31) (hu:lim u) (hn:0 < n) (hlt:Ai u < B ^ n) (hv:Ai u=R * 2 ^ k) (hr:r.length=n)
  (h:2 ^ k * Ai (r.take n) + u.getD 0 0 % 2 ^ k=Ai (u.take n) + B ^ n * (u.getD n 0 % 2 ^ k)):Ai r=R:=by
 have hp:0 < 2 ^ k:=Nat.pow_pos (by decide)
 have e0:Ai u=Ai (u.take n) + B ^ n * Ai (u.drop n):=by
  rcases Nat.lt_or_ge n u.length with h' | h'
  ·exact Dc (by omega)
  ·rw [List.take_of_length_le h',List.drop_eq_nil_of_le h'];simp [Ai]
 have hd:Ai (u.drop n)=0:=by
  rcases Nat.eq_zero_or_pos (Ai (u.drop n)) with h' | h'
  ·exact h'
  ·have:=Nat.le_mul_of_pos_right (B ^ n) h'
   omega
 have hz:u.getD n 0=0:=by
  rcases Nat.lt_or_ge n u.length with h' | h'
  ·rw [Hc h'] at hd;omega
  ·simp [List.getD_eq_getElem?_getD,List.getElem?_eq_none h']
 have h0:u.getD 0 0 % 2 ^ k=0:=by
  obtain ⟨c,hc⟩:∃ c,B=2 ^ k * c:=⟨2 ^ (32 - k),by rw [←Nat.pow_add,show k + (32 - k)=32 by omega];rfl⟩
  cases u with
  | nil=>simp
  | cons a u =>
    simp only [Ai] at hv
    have h3:(a + B * Ai u) % 2 ^ k=0:=by rw [hv,Nat.mul_mod_left]
    rw [hc,Nat.mul_assoc,Nat.add_mul_mod_self_left] at h3
    simpa using h3
 rw [hz,h0,Nat.zero_mod,Nat.mul_zero,Nat.add_zero,Nat.add_zero,A5 (by omega)] at h
 rw [hd,Nat.mul_zero,Nat.add_zero,hv] at e0
 rw [←e0,Nat.mul_comm] at h
 exact Nat.eq_of_mul_eq_mul_right hp h
end Go.Num
