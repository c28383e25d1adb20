/- Texts of one proof, merged: Acc9. -/
import Derived.Deep.DeepCutAuto
import Derived.Test.YthcpccddcgbanaaGreatDoorPiI
import Derived.Test.YthcpccddcgbanaaGreatDoorPiK
import Derived.Test.YthcpccddcgbanaaGreatDoorPiL
namespace Go.Proofs.YthcpccddcgbanaaGreatDoor
open Go.RowKit
set_option maxRecDepth 100000
set_option linter.unusedVariables false

theorem fat_nil (p:ByteArray) (s:Int) (w:World):Calls Tryz.prog 60 #[.string p,.int .i64 s,.nilIface] w fun e w'=>e=.returned .nilIface∧w=w':=by
  go_enter Tryz.func60,Tryz.ntmps60
  go_wp2
  go_ret
  exact ⟨rfl,rfl⟩
abbrev sArena9:ByteArray:=⟨#[97,114,101,110,97]⟩
theorem fat_err (p:ByteArray) (s k:Int) (w:World):Calls Tryz.prog 60 #[.string p,.int .i64 s,errV k] w fun e w'=>e=.returned (.iface 188 (.pointer (some ⟨w.heap.size,0,none⟩)))∧Blk w' w.heap.size 190 #[.string p,.int .i64 s,errV k]∧Fr none_ w w':=by
  go_enter Tryz.func60,Tryz.ntmps60
  go_wp2
  go_ret
  exact ⟨rfl,Blk.new w _ _,(Fr.refl none_ w).alloc _⟩
abbrev sTable9:ByteArray:=⟨#[116,97,98,108,101]⟩
def pgC (ps:List Pg) (n:Int):Int:=if n < 0∨(ps.length:Int)≤n then 1 else if (ps[n.toNat]?.map (·.1)).getD false=true then 0 else 6
theorem head_bad {T H:Nat} {ps:List Pg} (n:Int) (w:World) (h:Tbl w T H ps) (hb:pgC ps n≠0):Calls Tryz.prog 59 #[.pointer (some ⟨T,0,none⟩),.int .i64 n] w fun e w'=>e=.returned (.tuple #[.agg #[.int .i64 0,.int .i64 0],errV (pgC ps n)])∧Fr none_ w w':=by
  by_cases h1:n < 0∨(ps.length:Int)≤n
  · have e:pgC ps n=1:=if_pos h1
    rw [e]
    exact head_err (some ⟨T,0,none⟩) n 1 w (fun w' hf=>mapAt_arg T H ps n w' (h.keep hf) h1)
  · obtain ⟨i,rfl⟩:∃ i:Nat,n=(i:Int):=⟨n.toNat,by omega⟩
    obtain ⟨⟨u,s,g⟩,hp⟩:∃ p,ps[i]?=some p:=⟨_,List.getElem?_eq_getElem (by omega)⟩
    cases u with
    | true =>
      have e:pgC ps (i:Int)=0:=by unfold pgC;rw [if_neg h1];simp [hp]
      exact absurd e hb
    | false =>
      have e:pgC ps (i:Int)=6:=by unfold pgC;rw [if_neg h1];simp [hp]
      rw [e]
      exact head_err (some ⟨T,0,none⟩) i 6 w (fun w' hf=>mapAt_none T H ps i s g w' (h.keep hf) hp)
def mall (m:Nat) (x:St):Nat→Prop:=fun i=>i=m∨i=x.G∨i=x.H∨i=x.C∨i=x.M
theorem mall_m {m:Nat} {x:St} {w w':World} (h:Fr (only m) w w'):Fr (mall m x) w w':=h.mono (fun _ _ e=>.inl e)
theorem mall_G {m:Nat} {x:St} {w w':World} (h:Fr (only x.G) w w'):Fr (mall m x) w w':=h.mono (fun _ _ e=>.inr (.inl e))
theorem mall_H {m:Nat} {x:St} {w w':World} (h:Fr (only x.H) w w'):Fr (mall m x) w w':=h.mono (fun _ _ e=>.inr (.inr (.inl e)))
theorem mall_tr {m:Nat} {x:St} {a b c:World} (h:Fr (mall m x) a b) (k:Fr (mall m x) b c):Fr (mall m x) a c:=h.trans k (fun _ _=>id) (fun _ _=>id)
theorem tick_mm (m:Nat) (k:Int) (l:Lm) (x:St) (w:World) (h:Mm w m k l x) (h0:0≤k) (h1:k≤100000):Calls Tryz.prog 58 #[.pointer (some ⟨m,0,none⟩)] w fun e w'=>e=.returned (.tuple #[])∧Mm w' m (k+1) l x∧Fr (mall m x) w w':=by
  have c0:w.cell? ⟨m,0,none⟩=some (.int .i64 k):=h.b.cell' rfl
  have y0:=h.b.frozen 0
  have H:=hid_ h
  clear h
  go_enter Tryz.func58,Tryz.ntmps58
  go_wp2
  exact bodyPost_end (v:=.tuple #[]) (by simp [results,Tryz.results58,go_sem]) rfl ⟨rfl,H.out.count _,mall_m (Fr.only1 w ⟨m,0,none⟩ _)⟩
theorem tick_mo (m:Nat) (k:Int) (l:Lm) (x:St) (w:World) (h:Mm w m k l x) (h0:0≤k) (h1:k≤100000):Calls Tryz.prog 58 #[.pointer (some ⟨m,0,none⟩)] w fun e w'=>e=.returned (.tuple #[])∧Mm w' m (k+1) l x∧Fr (only m) w w':=by
  have c0:w.cell? ⟨m,0,none⟩=some (.int .i64 k):=h.b.cell' rfl
  have y0:=h.b.frozen 0
  have H:=hid_ h
  clear h
  go_enter Tryz.func58,Tryz.ntmps58
  go_wp2
  exact bodyPost_end (v:=.tuple #[]) (by simp [results,Tryz.results58,go_sem]) rfl ⟨rfl,H.out.count _,Fr.only1 w ⟨m,0,none⟩ _⟩
theorem Mm.ref {w w':World} {m:Nat} {k:Int} {l:Lm} {x:St} {b:Nat} {cs:Array Value} (h:Mm w m k l x) (hb:Blk w b 48 cs) (hf:Fr (only b) w w'):Mm w' m k l x:=by
  obtain ⟨cs',hG,_⟩:=h.ar.hG
  obtain ⟨cap,cur,hT0,hH,_⟩:=id h.tb
  exact ⟨h.b.fr hf (only_ne (Blk.ne_ h.b hb (by decide))),h.ar.beside hf hb (by decide) (by decide) (Blk.ne_ h.ar.hA hb (by decide)) (Blk.ne_ hG hb (by decide)),h.tb.fr hf (only_ne (Blk.ne_ hT0 hb (by decide))) (only_ne (Blk.ne_ hH hb (by decide))),h.ck.fr hf (only_ne (Blk.ne_ h.ck.hC hb (by decide))) (only_ne (h.ck.mne hb))⟩
def swapPs (ps:List Pg) (i:Nat) (s g a b c d:Int):List Pg:=if s=a∧g=b then ps.set i (true,c,d) else ps
theorem Mm.nref {w:World} {m:Nat} {k:Int} {l:Lm} {x:St} {b:Nat} {cs:Array Value} (h:Mm w m k l x) (hb:Blk w b 48 cs):¬ mall m x b:=by
  obtain ⟨cs,hG,_⟩:=h.ar.hG
  obtain ⟨cap,cur,hT0,hH,_⟩:=id h.tb
  rintro (e | e | e | e | e)
  · exact Blk.ne_ hb h.b (by decide) e
  · exact Blk.ne_ hb hG (by decide) e
  · exact Blk.ne_ hb hH (by decide) e
  · exact Blk.ne_ hb h.ck.hC (by decide) e
  · exact h.ck.mne hb e.symm
theorem at_live {ss:List Sl} {s g:Int} (h:atC ss s g=0):∃ (j:Nat) (y:Sl),s=(j:Int)+1∧ss[j]?=some y∧y.used=true∧y.gen=g:=by
  rcases atC_cases ss s g with ⟨h1,_⟩ | ⟨i,y,h1,h2,h3⟩
  · rw [h1] at h;cases h
  · rcases h3 with ⟨h3,_⟩ | ⟨_,h4,h5⟩
    · rw [h3] at h;cases h
    · exact ⟨i,y,h1,h2,h4,h5⟩
def Ev (w:World) (v:Value) (p:ByteArray) (s c:Int):Prop:=
  (c=0∧v=.nilIface)∨(c≠0∧∃ b,v=.iface 188 (.pointer (some ⟨b,0,none⟩))∧Blk w b 190 #[.string p,.int .i64 s,errV c])
theorem Ev.fr {w w':World} {v:Value} {p:ByteArray} {s c:Int} {S:Nat→Prop} (h:Ev w v p s c) (hf:Fr S w w') (hS:∀ b cs,Blk w b 190 cs→¬ S b):Ev w' v p s c:=by
  rcases h with h | ⟨h,b,hv,hb⟩
  · exact .inl h
  · exact .inr ⟨h,b,hv,hb.fr hf (hS b _ hb)⟩
theorem Ev.keep {w w':World} {v:Value} {p:ByteArray} {s c:Int} (h:Ev w v p s c) (hf:Fr none_ w w'):Ev w' v p s c:=h.fr hf (fun _ _ _=>id)
theorem Ev.only {w w':World} {v:Value} {p:ByteArray} {s c:Int} {g:Nat} {t:TypeId} {cs:Array Value} (h:Ev w v p s c) (hf:Fr (only g) w w') (hg:Blk w g t cs) (hne:190≠t):Ev w' v p s c:=
  h.fr hf (fun b _ hb=>only_ne (Blk.ne_ hb hg hne))
theorem fat_ev (p:ByteArray) (s k:Int) (w:World):Calls Tryz.prog 60 #[.string p,.int .i64 s,errOf k] w fun e w'=>∃ v,e=.returned v∧Ev w' v p s k∧Fr none_ w w':=by
  by_cases h:k=0
  · subst h
    exact (fat_nil p s w).mono fun e w' h=>⟨_,h.1,.inl ⟨rfl,rfl⟩,by rw [← h.2];exact Fr.refl _ _⟩
  · rw [errOf_pos h]
    exact (fat_err p s k w).mono fun e w' hh=>⟨_,hh.1,.inr ⟨h,_,rfl,hh.2.1⟩,hh.2.2⟩
end Go.Proofs.YthcpccddcgbanaaGreatDoor
