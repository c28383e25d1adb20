/- Texts of one proof, merged. -/
import Derived.Deep.QuietTactic
import Derived.BigQuiet
import Derived.BigRegion
import Derived.Test.YthpkbppaaagaoaaGreatMhA
import Derived.Test.YthpkbppaaagaoaaGreatMhB
import Derived.Test.YthpkbppaaagaoaaGreatMhH
import Derived.Test.YthpkbppaaagaoaaGreatMhM
import Derived.Test.YthpkbppaaagaoaaGreatMhN
import Derived.Test.YthpkbppaaagaoaaGreatMhO
import Derived.Test.YthpkbppaaagaoaaGreatMhW
namespace Go.Proofs.YthpkbppaaagaoaaGreat
set_option maxRecDepth 100000
set_option linter.unusedVariables false
open Go.RowKit Go.BigFrame

theorem chain_reads {w':World} {b:Nat} {ss:List Sl} {js:List Nat} {A:Option Addr} {c:Nat} {Cs:List Cr} (hCs:Cs.map (·.R)=js.map (recOf ss)) (ho:w'.ownsRow b 51 15 (.slice A js.length c) js.length (crFlat Cs)) (hown:∀ C ∈ Cs,RecOwn w' 0 C.R (.slice C.A C.R.rows.length C.c) (.slice C.B C.R.ents.length C.d)) (hp:∀ j ∈ js,PRec (recOf ss j)) :
    ChReads w' A js.length (Cs.map toCh)∧RwOkL (Cs.map toCh)∧RwCap (Cs.map toCh)∧(∀ C ∈ Cs.map toCh,C.R.ents.length≤500)∧(Cs.map toCh).map (·.R)=js.map (recOf ss):=by
  have hlen:Cs.length=js.length:=by have:=congrArg List.length hCs;rwa [List.length_map,List.length_map] at this
  have hpr:∀ C ∈ Cs,PRec C.R:=fun C hC=>by
    have:C.R ∈ js.map (recOf ss):=by rw [← hCs];exact List.mem_map.2 ⟨C,hC,rfl⟩
    obtain ⟨j,hj,e⟩:=List.mem_map.1 this
    rw [← e]
    exact hp j hj
  refine ⟨chReads_own (Cs:=Cs.map toCh) (base:=b) (c:=c) (by rw [flat_toCh];exact ho) (by rw [List.length_map];exact hlen) (fun C hC=>?_),fun C hC=>?_,fun C hC=>?_,fun C hC=>?_,by rw [map_toCh];exact hCs⟩
  · obtain ⟨D,hD,rfl⟩:=List.mem_map.1 hC
    have hk:=(hpr D hD).ok
    exact ChOwn.ok ⟨(hown D hD).base (Nat.zero_le _),hk.low,hk.high,hk.key,hk.hkey,hk.ents⟩
  · obtain ⟨D,hD,rfl⟩:=List.mem_map.1 hC
    exact ⟨(hpr D hD).val,(hpr D hD).rows,(hpr D hD).zr⟩
  · obtain ⟨D,hD,rfl⟩:=List.mem_map.1 hC
    obtain ⟨A',c',e,h1,h2,_⟩:=own_parts (hown D hD).r
    have e1:D.c=c':=by injection e
    rw [← e1] at h1 h2
    exact ⟨h1,h2⟩
  · obtain ⟨D,hD,rfl⟩:=List.mem_map.1 hC
    exact (hpr D hD).ze
theorem rfold_some {l:List Rc} {V:Lw} (hf:foldL l=some V) {w:World} {e:Ending} {w':World} (h:RFoldPostL l w e w'):∃ A c,e=.returned (.tuple #[lwV V (.slice A V.rows.length c),.int .i64 0])∧LwRd w.heap.size w' V A c∧Fr none_ w w':=by
  rcases h with ⟨V',A,c,_,h1,h2,h3,h4⟩ | ⟨k,h | h,_⟩
  · rw [hf] at h1
    obtain rfl:=Option.some.inj h1
    exact ⟨A,c,h2,h3,h4⟩
  · obtain ⟨_,R,hR,hn⟩:=h
    exact absurd (foldL_kind hf R hR) hn
  · rw [hf] at h
    cases h.2.2
theorem Bel.inv {x:St} {js:Nat→List Nat} {low:ByteArray} {p k:Nat} {R:List Rw} (h:Bel x js low p k R):∃ V,PgOk x js p V∧V.low=low∧V.gone=false∧((V.unb=true∧k=1∧R=V.rows)∨(V.unb=false∧∃ (q k':Nat) (R':List Rw),V.right=(q:Int)∧Bel x js V.high q k' R'∧k=k'+1∧R=V.rows ++ R')):=by
  cases h with
  | last h g u=>exact ⟨_,h,rfl,g,.inl ⟨u,rfl,rfl⟩⟩
  | more h g u r t=>exact ⟨_,h,rfl,g,.inr ⟨u,_,_,_,r,t,rfl,rfl⟩⟩
def BelowPost (n:Nat) (R:List Rw) (w:World) (e:Ending) (w':World):Prop:=∃ A c,e=.returned (.tuple #[.slice A R.length c,.int .i64 n,.bool true])∧w'.ownsRow w.heap.size 25 2 (.slice A R.length c) R.length (rwFlat R)∧Fr none_ w w'
set_option maxHeartbeats 4000000 in
theorem below13_ok {m:Nat} {k:Int} {l:Lm} {x:St} {js:Nat→List Nat} {n:Nat} {R:List Rw} (w:World) (h:Mm w m k l x) (hl1:20≤l.s) (hl2:l.s≤4096) (hb:Bel x js nilS 1 n R) (hn:n≤28) (hR:R.length≤5000) :
  Calls Tryz.prog 23 #[.pointer (some ⟨m,0,none⟩)] w (BelowPost n R w):=by
 obtain ⟨i0,hi0,hz0,hs0,hb0⟩:=info_parts row_info
 have Hi:=hid_ (And.intro hi0 (And.intro hz0 (And.intro hs0 hb0)))
 clear hi0 hz0 hs0 hb0
 have H:=hid_ h
 have HB:=hid_ hb
 clear h hb
 go_enter Tryz.func23,Tryz.ntmps23
 go_wp2_with fail
 go_loopw [5,6,7,8] (fun vo vl vn vk wr=>∃ (j:Nat) (P:List Rw) (low:ByteArray) (p n':Nat) (R':List Rw) (A:Option Addr) (c:Nat),vo=.slice A P.length c∧vl=.string low∧vn=.int .i64 p∧vk=.int .i64 ((j:Int)+1)∧wr.ownsRow w.heap.size 25 2 (.slice A P.length c) P.length (rwFlat P)∧Bel x js low p n' R'∧j+n'=n∧P ++ R'=R∧Fr none_ w wr) (fun _ _ _ vk _=>40 - (intOf vk).toNat)
 case atStart=>exact ⟨0,[],nilS,1,n,R,none,0,rfl,rfl,rfl,rfl,World.ownsRow_nil _ _ _ _,HB.out,by omega,rfl,Fr.refl _ _⟩
 case round =>
  obtain ⟨j,P,low,p,n',R',A,c,rfl,rfl,rfl,rfl,ho,hB,hj,hPR,hF⟩:=hrel
  obtain ⟨V,hV,hlow,hg,hc⟩:=hB.inv
  obtain ⟨s0,g0,k1,k2⟩:=hV.pg
  have O:=hid_ ho
  have F:=hid_ hF
  have PV:=hid_ hV
  have HC:=hid_ hc
  have HPR:=hid_ hPR
  have hn1:1≤n':=by rcases hc with ⟨_,e,_⟩ | ⟨_,_,_,_,_,_,e,_⟩ <;> omega
  have hj0:(0:Int)≤(j:Int):=Int.natCast_nonneg _
  have hj1:(j:Int)+1≤28:=by omega
  have hch:=hid_ (chain_ok wr (H.out.keep hF) p s0 g0 k1 (js p) k2 (by have:=hV.ln;omega) hl2)
  clear ho hF hV hc hPR k1 k2 hB
  go_wp2_with fail
  refine hch.out.mono ?_
  rintro e w1 ⟨A1,c1,B1,d1,Cs,rfl,hCs,ho1,_,hown1,hf1⟩
  obtain ⟨q1,q2,q3,q4,q5⟩:=chain_reads hCs ho1 hown1 PV.out.pr
  have F1:=hid_ (F.out.then_none hf1)
  have O1:=hid_ (own_none O.out hf1)
  have hfo:=hid_ (rfoldL_ok A1 (js p).length c1 (Cs.map toCh) w1 q1 (by have:=PV.out.ln;omega) q2 q3)
  have Q5:=hid_ q5
  clear hch hCs ho1 hown1 hf1 q1 q2 q3 q4 q5 F O
  go_wp2_with fail
  refine hfo.out.mono ?_
  rintro e w2 hpost
  obtain ⟨A2,c2,rfl,hV2,hf2⟩:=rfold_some (V:=V) (by rw [Q5.out];exact PV.out.vw) hpost
  have F2:=hid_ (F1.out.then_none hf2)
  have O2:=hid_ (own_none O1.out hf2)
  have V2:=hid_ hV2
  clear hpost hfo hV2 hf2 F1 O1 Q5
  go_upto_region 9 with fail
  obtain ⟨w3,hw3⟩:∃ z,z=w2.alloc (.cells #[.string low,.string V.high,.bool V.unb,.int .i64 V.right,.slice A2 V.rows.length c2,.bool false] 72):=⟨_,rfl⟩
  change Code.wp _ _ _ _ (w2.alloc (.cells #[.string low,.string V.high,.bool V.unb,.int .i64 V.right,.slice A2 V.rows.length c2,.bool false] 72))
  rw [← hw3]
  have f3:Fr none_ w2 w3:=by rw [hw3];exact (Fr.refl none_ w2).alloc _
  have BV:Hid (Blk w3 w2.heap.size 72 #[.string low,.string V.high,.bool V.unb,.int .i64 V.right,.slice A2 V.rows.length c2,.bool false]):=hid_ (by rw [hw3];exact Blk.new w2 _ _)
  have F3:=hid_ (F2.out.then_none f3)
  have O3:=hid_ (own_none O2.out f3)
  have V3:=hid_ (V2.out.rd.none_fr f3)
  have hbs:=F3.out.size
  have hPl:P.length+V.rows.length≤5000:=by
   have:=congrArg List.length HPR.out
   rw [List.length_append] at this
   rcases HC.out with ⟨_,_,e⟩ | ⟨_,_,_,R'',_,_,_,e⟩
   ·rw [e] at this;omega
   ·rw [e,List.length_append] at this;omega
  have d0:=BV.out.cell' (i:=0) rfl
  have d5:=BV.out.cell' (i:=5) rfl
  have d4:=BV.out.cell' (i:=4) rfl
  have LOW:=hid_ hlow
  have GN:=hid_ hg
  clear hw3 f3 V2 F2 O2 hlow hg
  obtain ⟨np,hnp⟩:∃ z,z=P.length:=⟨_,rfl⟩
  rw [← hnp] at O3 hPl ⊢
  have NP:=hid_ hnp
  clear hnp
  go_upto_region 11 with fail
  go_upto_region 12 with (at_builtin;refine wpList_append_any _ rfl (.tmp 46) (.tmp 48) 22 rfl w.heap.size 25 i0 _ 2 32 Tryz.underlying22 Hi.out.1 Hi.out.2.1 Hi.out.2.2.1 Hi.out.2.2.2 rfl (by omega) (.slice A np c) np (rwFlat P) rfl O3.out A2 V.rows.length c2 (rwFlat V.rows) rfl V3.out (rwFlat_one _) (by simp only [maxLen];omega) (by omega) hbs ?_;intro A4 c4 w4 hown4 hgr4)
  have fg:Fr (fun q=>(Value.slice A np c).ownBlock=some q) w3 w4:=(Fr.refl _ w3).grown hgr4 (fun kk hkk=>.inl hkk)
  have BV4:=hid_ (BV.out.fr fg (fun e=>own_blk_ne O3.out BV.out (by decide) e))
  have F4:=hid_ (F3.out.grown hgr4 (fun kk hkk=>.inr (O3.out.lt kk hkk).1))
  have O4:=hid_ hown4
  clear hown4 hgr4 fg d0 d5 d4 BV O3 V3 F3
  have e2:=BV4.out.cell' (i:=2) rfl
  have e1:=BV4.out.cell' (i:=1) rfl
  have e3:=BV4.out.cell' (i:=3) rfl
  rcases HC.out with ⟨hu,hk1,hR1⟩ | ⟨hu,q,k1,R1,hq,ht,hk1,hR1⟩
  ·rw [hu] at e2
   have FIN:Hid (P ++ V.rows=R∧j+1=n):=hid_ ⟨by rw [← hR1];exact HPR.out,by omega⟩
   clear hu hk1 hR1
   go_wp2_with fail
   go_ret3
   obtain ⟨g1,g2⟩:=FIN.out
   refine ⟨A4,c4,?_,?_,F4.out⟩
   ·rw [← g1,← g2,List.length_append,← NP.out]
    push_cast
    rfl
   ·have:=O4.out
    rw [← g1,List.length_append,← NP.out,rwFlat_app]
    exact this
  ·rw [hu] at e2
   rw [hq] at e3
   have NX:Hid (Bel x js V.high q k1 R1∧n'=k1+1∧R'=V.rows ++ R1):=hid_ ⟨ht,hk1,hR1⟩
   clear hu hq ht hk1 hR1
   go_wp2_with fail
   go_region
   go_wp2_with fail
   go_roundw
   case rel =>
    obtain ⟨g1,g2,g3⟩:=NX.out
    exact ⟨j+1,P ++ V.rows,V.high,q,k1,R1,A4,c4,by rw [List.length_append,← NP.out],rfl,rfl,by go_num,by rw [List.length_append,← NP.out,rwFlat_app];exact O4.out,g1,by omega,by rw [List.append_assoc,← g3];exact HPR.out,F4.out.drew⟩
   case measure=>simp [intOf];omega
end Go.Proofs.YthpkbppaaagaoaaGreat
