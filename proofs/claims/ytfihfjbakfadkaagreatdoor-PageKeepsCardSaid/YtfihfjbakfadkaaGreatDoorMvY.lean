/- Texts of one proof, merged: Kst10. -/
import Derived.Test.YtfihfjbakfadkaaGreatDoorMvU
namespace Go.Proofs.YtfihfjbakfadkaaGreatDoor
open Go.RowKit Go.BigFrame
set_option maxRecDepth 100000
set_option linter.unusedVariables false

set_option maxHeartbeats 4000000 in
theorem step_phK {b0 g m:Nat} {k:Int} {l:Lm} {x:St} {w:World} {s:LdS} {js:List Nat} {n s0 g0:Int} {p:Nat} (h:Ldr b0 w g s) (hm:Mm w m k l x) (hb:∀ i,mall m x i→i < b0) (h0:0≤k) (h1:k≤100000) (ph:LdPh x.ss js n s0 g0 p s) (hp:p≤js.length)
    (hp1:0 < p) (hl:Links x.ss js s0 g0) (hne:js≠[]) (hls:js.length≤l.s) (hl2:js.length≤4000) :
    Calls Tryz.prog 28 #[.pointer (some ⟨g,0,none⟩),.pointer (some ⟨m,0,none⟩)] w fun e w'=>∃ s',e=.returned (.bool (decide (p=js.length)))∧LdPh x.ss js n s0 g0 (p+1) s'∧Ldr b0 w' g s'∧Mm w' m (k+1) l x∧Fr (lown m x g s) w w'∧OwnStep s s' w:=by
  have hlen:0 < js.length:=List.length_pos_iff.2 hne
  have hov:s.over=false:=by rw [ph.ov];exact decide_eq_false (by omega)
  cases p with
  | zero=>exact absurd hp1 (Nat.lt_irrefl 0)
  | succ q =>
    have hbg:s.begun=true:=by rw [ph.bg];exact decide_eq_true (by omega)
    have hlq:=ph.len
    simp only [Nat.add_sub_cancel] at hlq
    refine (step_nextO h hm hb h0 h1 hov hbg (by omega) (by omega)).mono ?_
    rintro e w' ⟨R,A,c,B,d,kk,v,hld,_,hmm,hf,hcase⟩
    have hq:q < js.length:=by omega
    have hnx:=ph.nx (by omega)
    simp only [Nat.add_sub_cancel] at hnx
    rw [List.drop_eq_getElem_cons hq] at hnx
    obtain ⟨rfl,hR,hrf,hrest⟩:=load_links hnx hld
    rcases hcase with ⟨e1,_⟩ | ⟨_,A',c',B',d',ov,ve,e1,e2,ho1,ho2,hc⟩
    · exact absurd rfl e1
    have hfin:ov=decide (q+1=js.length)∧ve=.nilIface:=by
      have hz:=links_zero hrest
      have hdl:js.drop (q+1)=[] ↔ js.length≤q+1:=List.drop_eq_nil_iff
      rcases hc with ⟨z1,z2,z3,z4⟩ | ⟨z1,z2,_,_⟩ | ⟨z1,_,z3,z4⟩
      · have:=hdl.1 (hz.1 ⟨z1,z2⟩)
        exact ⟨by rw [z3];exact (decide_eq_true (by omega)).symm,z4⟩
      · exfalso
        have:¬ js.length≤q+1:=fun hle=>z1 (hz.2 (hdl.2 hle))
        omega
      · have:¬ js.length≤q+1:=fun hle=>z1 (hz.2 (hdl.2 hle))
        exact ⟨by rw [z3];exact (decide_eq_false (by omega)).symm,by rw [z4];exact ph.ve⟩
    refine ⟨⟨s.n,s.begun,ov,s.hs,s.hg,R.nslot,R.ngen,A',c',s.L ++ [⟨R,A,c,B,d⟩],B',d',s.refs ++ [(s.ns,s.ng)],ve⟩,by rw [e1,hfin.1],⟨ph.nn,?_,?_,by omega,fun _=>ph.hd (by omega),?_,?_,fun _=>by simpa using hrest,hfin.2⟩,e2,hmm,hf,fun k hk=>ho1 k (by simpa using hk),fun k hk=>ho2 k (by simpa using hk)⟩
    · show s.begun=_
      rw [hbg]
      exact (decide_eq_true (by omega)).symm
    · show ov=_
      rw [hfin.1]
      simp
    · have hls':=ph.ls
      simp only [Nat.add_sub_cancel] at hls' ⊢
      rw [List.take_add_one,List.getElem?_eq_getElem hq,List.map_append,List.map_append,hls']
      simp [hR]
    · have hrs':=ph.rs
      simp only [Nat.add_sub_cancel] at hrs' ⊢
      rw [List.take_add_one,List.getElem?_eq_getElem hq,List.map_append,hrs']
      simp [hrf]
theorem LdPh.stand {ss ss':List Sl} {js:List Nat} {n s0 g0:Int} {p:Nat} {s:LdS} (h:LdPh ss js n s0 g0 p s) (hl:Links ss js s0 g0) (hs:Stand ss ss'):LdPh ss' js n s0 g0 p s:=by
  obtain ⟨_,h2,h3⟩:=hs js s0 g0 hl
  refine ⟨h.nn,h.bg,h.ov,h.le,h.hd,?_,?_,fun hp=>(hs _ _ _ (h.nx hp)).1,h.ve⟩
  · rw [h.ls,List.map_take,List.map_take,h2]
  · rw [h.rs,List.map_take,List.map_take,h3]
end Go.Proofs.YtfihfjbakfadkaaGreatDoor
