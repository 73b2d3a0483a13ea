/-
 Texts joined: VMap.
-/
import Derived.Test.YtenieameoojbjaaGreatDoorUMT
import Derived.ChangeMaps3
import Derived.LaidMore
set_option linter.unusedVariables false
set_option linter.unusedSimpArgs false
set_option linter.loopingSimpArgs false
namespace Go.V
open Go Go.ChangeShapes Go.WideShapes Go.ChangeAt Go.RowKit Go.ChangeMaps

section
variable {H:Type} {enc:TypeId × Value→H} {P:Program} {W:World} {base:Nat} {sp:Nat→Bool} {held:Bool}

theorem Rk {x:Lit × DataW H}:∀ {l:List (Lit × DataW H)},x∈l.foldr DataW.insert []↔x∈l
 | []=>by simp
 | y::l=>by simp only [List.foldr_cons,mem_insert_iff,Rk,List.mem_cons]

/-- A map of strings to whole numbers that reads as this listing. -/
theorem map_rep {t k e:TypeId} {kd:IntKind} (ht:P.underlying t=some (.map k e)) (hk:P.underlying k=some .string) (he:P.underlying e=some (.int kd)) {Ov:Nat} {v:Value} {q:List MemPlace} (kvs:List (List UInt8 × Int))
  (hnd:(kvs.map (·.1)).Nodup) (h:DataW.trod enc P W base sp held Ov t [v]=some (.map (kvs.map fun x=>(Lit.string x.1,DataW.lit (.int kd x.2))),q)) :
  Rep (Kw W) (.fmap (kvs.map fun x=>.str x.1) (kvs.map fun x=>.int kd x.2)) v:=by
 rcases ChangeMaps.open_map ht hk he h with ⟨_,hx⟩ | ⟨b,es,clock,hcs,hb,_,F,hx⟩
 ·cases hx
 ·simp only [List.cons.injEq,and_true] at hcs
  subst hcs
  simp only [Prod.mk.injEq,DataW.map.injEq] at hx
  obtain ⟨hents,_⟩:=hx
  have mem:∀ y,y∈(kvs.map fun x=>((Lit.string x.1,DataW.lit (.int kd x.2)):Lit × DataW H))↔y∈es.toList.map (rg H P k kd):=fun y=>by rw [hents];exact Rk
  -- the entry i
  have ent:∀ i,i < es.size→∃ j,j < kvs.length∧∃ s:ByteArray,(es.getD i default).key=.string s∧(kvs.getD j ([],0)).1=s.data.toList∧(es.getD i default).val=.int kd (kvs.getD j ([],0)).2:=fun i hi=>by
   have hg:es.getD i default=es[i]:=by simp [Array.getD,hi]
   have hm:es[i]∈es.toList:=by simp
   obtain ⟨y,hy⟩:=F.reads _ hm
   obtain ⟨s,h1,h2,_⟩:=rd_some hk hy
   have hy2:rg H P k kd es[i]∈kvs.map fun x=>((Lit.string x.1,DataW.lit (.int kd x.2)):Lit × DataW H):=(mem _).2 (List.mem_map_of_mem hm)
   rw [rg_of hy] at hy2
   obtain ⟨x,hx,hxy⟩:=List.mem_map.1 hy2
   obtain ⟨j,hj,rfl⟩:=List.getElem_of_mem hx
   refine ⟨j,hj,s,by rw [hg];exact h1,?_,?_⟩
   ·rw [←hxy] at h2
    simp only [Lit.string.injEq] at h2
    simp [hj,h2]
   ·rw [hg]
    unfold rd at hy
    simp only [Option.bind_eq_some_iff,Option.map_eq_some_iff] at hy
    obtain ⟨_,_,d,hd,rfl⟩:=hy
    simp only [Prod.mk.injEq] at hxy
    obtain ⟨_,hxy⟩:=hxy
    subst hxy
    generalize hv:es[i].val=u at hd
    unfold rdv at hd
    split at hd
    ·split at hd
     ·rename_i hc
      simp only [Option.some.injEq,DataW.lit.injEq,Lit.int.injEq] at hd
      rw [hc.1,hd.2]
      simp [hj]
     ·cases hd
    ·cases hd
  let π:Nat→Nat:=fun i=>if h:i < es.size then (ent i h).choose else 0
  have hπ:∀ i (h:i < es.size),π i=(ent i h).choose:=fun i h=>by simp only [π,dif_pos h]
  have key:∀ i (h:i < es.size),π i < kvs.length∧∃ s:ByteArray,(es.getD i default).key=.string s∧(kvs.getD (π i) ([],0)).1=s.data.toList∧(es.getD i default).val=.int kd (kvs.getD (π i) ([],0)).2:=fun i h=>by
   rw [hπ i h];exact (ent i h).choose_spec
  refine .fmap π (fun h=>h) hb (by simp) (fun i h=>by simpa using (key i h).1) (fun j hj=>?_) (fun i c h hc=>?_) (fun i c h hc=>?_)
  ·have hj:j < kvs.length:=by simpa using hj
   have hy:((Lit.string kvs[j].1,DataW.lit (.int kd kvs[j].2)):Lit × DataW H)∈es.toList.map (rg H P k kd):=(mem _).1 (List.mem_map.2 ⟨kvs[j],List.getElem_mem hj,rfl⟩)
   obtain ⟨x,hx,hxy⟩:=List.mem_map.1 hy
   obtain ⟨i,hi,rfl⟩:=List.getElem_of_mem hx
   have hi':i < es.size:=by simpa using hi
   refine ⟨i,hi',?_⟩
   obtain ⟨h1,s,h2,h3,_⟩:=key i hi'
   have hg:es.getD i default=es.toList[i]:=by simp [Array.getD,hi']
   rw [hg] at h2
   obtain ⟨y,hy⟩:=F.reads _ hx
   obtain ⟨s',e1,e2,_⟩:=rd_some hk hy
   rw [rg_of hy] at hxy
   rw [hxy] at e2
   simp only [Lit.string.injEq] at e2
   rw [h2] at e1
   cases e1
   have hkk:kvs[π i].1=kvs[j].1:=by
    rw [e2,← h3];simp [h1]
   have hq:(kvs.map (·.1))[π i]? = (kvs.map (·.1))[j]? := by simp [h1,hj,hkk]
   exact (List.getElem?_inj (by simpa using h1) hnd).1 hq
  ·obtain ⟨h1,s,h2,h3,_⟩:=key i h
   have:c=.str s.data.toList:=by
    simp only [List.getElem?_map,Option.map_eq_some_iff] at hc
    obtain ⟨x,hx,rfl⟩:=hc
    rw [←h3,List.getD_eq_getElem?_getD,hx];rfl
   rw [this,h2];exact .str
  ·obtain ⟨h1,s,_,_,h4⟩:=key i h
   have:c=.int kd (kvs.getD (π i) ([],0)).2:=by
    simp only [List.getElem?_map,Option.map_eq_some_iff] at hc
    obtain ⟨x,hx,rfl⟩:=hc
    rw [List.getD_eq_getElem?_getD,hx];rfl
   rw [this,h4];exact .int

/-- A slice of such maps. -/
theorem maps_rep {t tm k e:TypeId} {kd:IntKind} (ht:P.underlying t=some (.slice tm)) (hc:P.cellsOf tm=1) (htm:P.underlying tm=some (.map k e)) (hk:P.underlying k=some .string) (he:P.underlying e=some (.int kd))
  {Ov:Nat} {v:Value} {q:List MemPlace} (ms:List (List (List UInt8 × Int))) (h0:0 < ms.length) (hnd:∀ m∈ms,(m.map (·.1)).Nodup)
  (h:DataW.trod enc P W base sp held Ov t [v]=some (.slice (ms.map fun kvs=>.map (kvs.map fun x=>(Lit.string x.1,DataW.lit (.int kd x.2)))) [],q)) :
  Rep (Kw W) (.slc (ms.map fun kvs=>.fmap (kvs.map fun x=>.str x.1) (kvs.map fun x=>.int kd x.2))) v:=by
 obtain ⟨a,cap,hcs,hcap,hel⟩:=open_row ht hc h
 simp only [List.cons.injEq,and_true] at hcs
 subst hcs
 rw [List.length_map] at hcap
 have el:∀ i,i < ms.length→∃ u,W.cell? (a.add i)=some u∧Rep (Kw W) (.fmap ((ms.getD i []).map fun x=>.str x.1) ((ms.getD i []).map fun x=>.int kd x.2)) u:=fun i hi=>by
  obtain ⟨u,n,q',hu,hr⟩:=hel i _ (by rw [List.getElem?_map,List.getElem?_eq_getElem hi];rfl)
  refine ⟨u,hu,?_⟩
  have hgd:ms.getD i []=ms[i]:=by simp [hi]
  rw [hgd]
  exact map_rep htm hk he ms[i] (hnd _ (List.getElem_mem hi)) hr
 obtain ⟨b,off,spot⟩:=a
 obtain ⟨u0,hu0,_⟩:=el 0 h0
 have hspot:spot=none:=by simpa [Addr.add] using World.cell?_spot hu0
 subst hspot
 have one:∀ {ks vs:List PVal} {u:Value},Rep (Kw W) (.fmap ks vs) u→u.oneCell'=true:=fun h=>by cases h;rfl
 have:=Rep.slc (V:=Kw W) (xs:=ms.map fun kvs=>.fmap (kvs.map fun x=>.str x.1) (kvs.map fun x=>.int kd x.2)) (b:=b) (off:=off) (cap:=cap) 1 (fun n=>(W.cell? ⟨b,off + n,none⟩).getD undef) (fun h=>h)
  (World.block_lt_of_cell? _ _ (by simpa [Addr.add] using hu0)) (by simpa using hcap) (fun n hn=>by
   obtain ⟨u,hu,hr⟩:=el n (by simpa using hn)
   rw [Addr.add_mid] at hu
   show W.cell? _=_∧_
   rw [hu]
   exact ⟨rfl,one hr⟩) (fun i x hx=>by
   simp only [List.getElem?_map,Option.map_eq_some_iff] at hx
   obtain ⟨y,_,rfl⟩:=hx
   rfl) (fun i x j c hx hcj=>by
   simp only [List.getElem?_map,Option.map_eq_some_iff] at hx
   obtain ⟨y,hy,rfl⟩:=hx
   cases j with
   | zero =>
     simp [PVal.cells] at hcj
     subst hcj
     obtain ⟨u,hu,hr⟩:=el i (List.getElem?_eq_some_iff.1 hy).1
     rw [Addr.add_mid] at hu
     rw [Nat.mul_one,Nat.add_zero,hu]
     have hgd:ms.getD i []=y:=by rw [List.getD_eq_getElem?_getD,hy];rfl
     rw [hgd] at hr
     exact hr
   | succ j=>simp [PVal.cells] at hcj)
 simpa using this

/-- What stands third on the list, a slice of maps. -/
theorem Sn {n1 n2 n3:String} {d1 d2:DataW Unit} {t tm k e:TypeId} {kd:IntKind} {g:Nat} (ms:List (List (List UInt8 × Int))) (hg:P.globalNamed n3=some g) (hty:(P.globals[g]?).map (·.type)=some t) (ht:P.underlying t=some (.slice tm))
  (hc:P.cellsOf tm=1) (htm:P.underlying tm=some (.map k e)) (hk:P.underlying k=some .string) (he:P.underlying e=some (.int kd)) (h0:0 < ms.length) (hnd:∀ m∈ms,(m.map (·.1)).Nodup)
  (h:laidMet P [(n1,d1),(n2,d2),(n3,.slice (ms.map fun kvs=>.map (kvs.map fun x=>(Lit.string x.1,DataW.lit (.int kd x.2)))) [])] W) :
  ∃ v,W.cell? ⟨g,0,none⟩=some v∧v.oneCell'=true∧Rep (Kw W) (.slc (ms.map fun kvs=>.fmap (kvs.map fun x=>.str x.1) (kvs.map fun x=>.int kd x.2))) v:=by
 obtain ⟨ps,⟨_,_,_,_,_,_,_,_,_,_,⟨_,_,_,_,_,_,_,_,_,_,⟨g',t',cs,Ov,p,q,hg',ht',hvar,hd,_,_⟩,_⟩,_⟩,_⟩:=h
 obtain rfl:=Option.some.inj (hg.symm.trans hg')
 obtain rfl:=Option.some.inj (hty.symm.trans ht')
 obtain ⟨a,cap,hcs,_,_⟩:=open_row ht hc hd
 rw [hcs] at hd
 have hr:=maps_rep ht hc htm hk he ms h0 hnd hd
 have hcell:=World.var?_cell hg hvar 0
 have:cs[0]? = some (.slice (some a) (ms.map fun kvs=>(DataW.map (kvs.map fun x=>(Lit.string x.1,DataW.lit (.int kd x.2))):DataW Unit)).length cap):=by
  rw [←Array.getElem?_toList,hcs];rfl
 exact ⟨_,hcell.trans this,rfl,hr⟩
end
end Go.V
