/-
 Texts joined: VTop.
-/
import Derived.Test.YtenieameoojbjaaGreatDoorUMW
import Derived.ProofKit
import Derived.OpenShut
import Derived.Deep.DeepHandedRow
import Derived.Deep.DeepWitnessRowRef
import Derived.Lib.LaidTab
import Derived.Carry
import Derived.ChangeMaps5
set_option linter.unusedVariables false
set_option linter.unusedSimpArgs false
set_option linter.loopingSimpArgs false
namespace Go.V
open Go Go.ChangeShapes Go.WideShapes Go.ChangeAt Go.RowKit Go.ChangeMaps

section
variable {H:Type} {enc:TypeId × Value→H} {P:Program} {W W':World}

theorem Same.below {w w':World} (h:Same w w'):Below w.heap.size w w':=⟨h.os,h.tape,h.output,h.size,h.heap⟩

/-- The arguments read behind the call as they did before. -/
theorem Mc (hl:laidOutB P=true) (hb:Below W.heap.size W W'):∀ {ts:List TypeId} {vs:List Value} {ds:List (DataW H)} {ps:List MemPlace},(∀ t∈ts,P.readableRec t=true∧t < P.types.size) →
  DataW.TrodAll enc P W 0 (fun _=>true) true ts vs ds ps→(∀ x∈ps,x.block < W.heap.size)→DataW.TrodAll enc P W' 0 (fun b=>decide (b < W.heap.size)) true ts vs ds ps
 | [],_,_,_,_,h,_=>by
   obtain ⟨rfl,rfl,rfl⟩:=trodAll_nil h
   exact trodAll_mk0
 | t::ts,_,_,_,ht,h,hlt=>by
   obtain ⟨v,vs1,d,ds1,a,b,rfl,rfl,rfl,h1,h2⟩:=trodAll_cons h
   have h3:=Mc hl hb (fun t' h'=>ht t' (List.mem_cons_of_mem _ h')) h2 fun x hx=>hlt x (by simp [hx])
   exact trodAll_cons_mk (Below.trod hl (ht t (by simp)).1 (ht t (by simp)).2 h1 hb fun x hx=>hlt x (by simp [hx])) h3

/-- What a law's row asks behind a call that answers true and turns nothing of what was there. -/
theorem law_post {f:Func} {s:ChangeSpec} {args:Array Value} {ds gs:List (DataW H)} {before:List MemPlace} {tb:TypeId} (hl:laidOutB P=true) (hs:s.vars=[])
  (hts:∀ t∈f.params.toList,P.readableRec t=true∧t < P.types.size) (hr:f.resultTypes=#[tb]) (htb:P.underlying tb=some .bool)
  (hW:DataW.Whole enc P f.params.toList s.vars false W args.toList ds gs before) (hfn:s.fn H (ds ++ gs)={ results:=[.lit (.bool true)],args:=ds }) (hb:Below W.heap.size W W') :
  s.post enc P f false true false false W args (.bool true) W':=by
 have hW':=hW
 have hlt:∀ x∈before,x.block < W.heap.size:=fun x hx=>hW'.lt x hx
 obtain ⟨p,q,hA,hV,rfl,_,_⟩:=hW
 rw [hs] at hV
 obtain ⟨rfl,rfl⟩:=trodVars_none hV
 refine ⟨ds,[],p ++ [],[],p ++ [],[],hW',?_,?_,?_,hb.frame _,fun h=>by cases h⟩
 ·rw [hfn,hr];exact trodAll_cons_mk (shut_bool htb _) trodAll_mk0
 ·rw [hfn,List.append_nil]
  refine Mc hl hb hts hA fun x hx=>hlt x (by simp [hx])
 ·rw [hfn,hs];rfl

/-- A table that stands second on the list. -/
theorem Pv {name name':String} {d:DataW Unit} {k:IntKind} {zs:List Int} {rest:List (String × DataW Unit)} {g:Nat} {t e:TypeId} {n:Nat}
  (hg:P.globalNamed name=some g) (hty:(P.globals[g]?).map (·.type)=some t) (ht:P.underlying t=some (.array n e)) (he:P.underlying e=some (.int k)) (hce:P.cellsOf e=1) (hct:P.cellsOf t=n)
  (h:laidMet P ((name',d)::(name,Lib.tabData k zs)::rest) W):Lib.TabIs P W name k zs:=by
 obtain ⟨ps,⟨_,_,_,_,_,_,_,_,_,_,⟨g',t',cs,Ov,p,q,hg',ht',hvar,hd,_,_⟩,_⟩,_⟩:=h
 obtain rfl:=Option.some.inj (hg.symm.trans hg')
 obtain rfl:=Option.some.inj (hty.symm.trans ht')
 unfold Lib.TabIs
 rw [hvar,← Lib.cells_of_tab ht he hce hct hd]

/-! ### the arguments, in the walk's words -/
theorem Yp {V:View} (s:ByteArray):Rep V (.str s.data.toList) (.string s):=.str

theorem rep_ints {t e:TypeId} {v:Value} {d:DataW H} {ps:List MemPlace} (ht:P.underlying t=some (.slice e)) (he:P.underlying e=some (.int .i64)) (hc:P.cellsOf e=1)
  {b0:Nat} (hval:Value.okWide P W .any b0 t v) (h:DataW.Trod enc P W 0 (fun _=>true) true t v d ps):∃ xs:List Int,Rep (Kw W) (.slc (xs.map (.int .i64))) v∧∀ n∈xs,(Lit.int .i64 n).wf=true:=by
 obtain ⟨a0,len,cap,rfl⟩:=okWide_slice ht hval
 obtain ⟨Ov,hf⟩:=h
 rcases open_ints ht he hc hf with ⟨hcs,_⟩ | ⟨a,len',cap',zs,hcs,_,hl,hm,hz,_,hcell,hwf⟩
 ·simp [Value.cells] at hcs
  obtain ⟨rfl,rfl,rfl⟩:=hcs
  exact ⟨[],.slcEmpty,fun n hn=>by simp at hn⟩
 ·simp [Value.cells] at hcs
  obtain ⟨rfl,rfl,rfl⟩:=hcs
  simp only [if_true] at hz
  obtain ⟨b,off,spot⟩:=a
  refine ⟨zs.take len,?_,fun n hn=>hwf n (List.mem_of_mem_take hn)⟩
  rcases Nat.eq_zero_or_pos len with h0 | h0
  ·subst h0;simp only [List.take_zero,List.map_nil];exact .slcEmpty
  ·have hspot:spot=none:=by simpa [Addr.add] using World.cell?_spot (hcell 0 (by omega))
   subst hspot
   have hcl:∀ i,i < zs.length→W.cell? ⟨b,off + i,none⟩=some (.int .i64 (zs.getD i 0)):=fun i hi=>by
    have:=hcell i hi
    rwa [Addr.add_mid] at this
   have hlen:(zs.take len).length=len:=by simp;omega
   have hget:∀ (i:Nat) (x:PVal),((zs.take len).map (PVal.int .i64))[i]? = some x→x=.int .i64 (zs.getD i 0)∧i < len:=fun i x hx=>by
    simp only [List.getElem?_map,Option.map_eq_some_iff] at hx
    obtain ⟨y,hy,rfl⟩:=hx
    rw [List.getElem?_take] at hy
    split at hy
    ·rename_i hi;exact ⟨by simp [hy],hi⟩
    ·cases hy
   have:=Rep.slc (V:=Kw W) (xs:=(zs.take len).map (.int .i64)) (b:=b) (off:=off) (cap:=cap) 1 (fun n=>.int .i64 (zs.getD n 0)) (fun h=>h)
    (World.block_lt_of_cell? _ _ (hcl 0 (by omega))) (by simp;omega) (fun n hn=>⟨hcl n (by simp at hn;omega),rfl⟩) (fun i x hx=>by rw [(hget i x hx).1];rfl)
    (fun i x j c hx hc'=>by
     rw [(hget i x hx).1] at hc'
     cases j with
     | zero=>simp [PVal.cells] at hc';subst hc';rw [Nat.mul_one,Nat.add_zero];exact .int
     | succ j=>simp [PVal.cells] at hc')
   rw [List.length_map,hlen] at this
   exact this

theorem W6 {V:View} {p:PVal} {v:Value} (h:Rep V p v):Ca V [p] #[v]:=⟨rfl,fun j q hq=>by
 cases j with
 | zero=>simp at hq;subst hq;exact h
 | succ j=>simp at hq⟩
theorem listRep_two {V:View} {p q:PVal} {v u:Value} (h:Rep V p v) (k:Rep V q u):Ca V [p,q] #[v,u]:=⟨rfl,fun j x hx=>by
 match j with
 | 0=>simp at hx;subst hx;exact h
 | 1=>simp at hx;subst hx;exact k
 | j + 2=>simp at hx⟩
theorem listRep_three {V:View} {p q r:PVal} {v u w:Value} (h:Rep V p v) (k:Rep V q u) (m:Rep V r w):Ca V [p,q,r] #[v,u,w]:=⟨rfl,fun j x hx=>by
 match j with
 | 0=>simp at hx;subst hx;exact h
 | 1=>simp at hx;subst hx;exact k
 | 2=>simp at hx;subst hx;exact m
 | j + 3=>simp at hx⟩
end
end Go.V
