/- Texts of one proof, merged: As2. -/
import Derived.Deep.LoopGhost
import Derived.Deep.QuietTactic
import Derived.BigQuiet
import Derived.Test.YthcpccddcgbanaaGreatDoorPiA
import Derived.Test.YthcpccddcgbanaaGreatDoorPiI
namespace Go.Proofs.YthcpccddcgbanaaGreatDoor
open Go.RowKit Go.Extern.Stop Go.Stop Go.Extern
set_option maxRecDepth 100000
set_option linter.unusedVariables false

inductive Er2 where
  | code (k:Int)
  | at_ (p:ByteArray) (s:Int) (e:Er2)
def Er2.depth:Er2→Nat
  | .code _=>0
  | .at_ _ _ e=>e.depth+1
def Er2.first:Er2→Int
  | .code k=>k
  | .at_ _ _ e=>e.first
def ErAt (w:World):Er2→Value→Prop
  | .code k,v=>v=errV k
  | .at_ p s e,v=>∃ b ve,v=.iface 188 (.pointer (some ⟨b,0,none⟩))∧Blk w b 190 #[.string p,.int .i64 s,ve]∧ErAt w e ve
theorem ErAt.keep {w w':World} (hf:Fr none_ w w'):∀ {E:Er2} {v:Value},ErAt w E v→ErAt w' E v
  | .code k,v,h=>h
  | .at_ p s e,v,h=>by
    obtain ⟨b,ve,h1,h2,h3⟩:=h
    exact ⟨b,ve,h1,h2.fr hf id,h3.keep hf⟩
theorem ErAt.iface {w:World}:∀ {E:Er2} {v:Value},ErAt w E v→∃ t x,v=.iface t x
  | .code _,_,rfl=>⟨_,_,rfl⟩
  | .at_ _ _ _,_,⟨_,_,rfl,_⟩=>⟨_,_,rfl⟩
theorem unwrapF {p:ByteArray} {s:Int} {ve:Value} (b:Nat) (w:World) (h:Blk w b 190 #[.string p,.int .i64 s,ve]):Calls Tryz.prog 116 #[.pointer (some ⟨b,0,none⟩)] w fun e w'=>e=.returned ve∧w=w':=by
  have c2:w.cell? ⟨b,2,none⟩=some ve:=h.cell' rfl
  clear h
  go_enter Tryz.func116,Tryz.ntmps116
  go_wp2
  go_ret
  exact ⟨rfl,rfl⟩
theorem tyOC (v:Value) (w:World):(ReflectliteType.typeOf #[.iface 65 v]).run Tryz.prog w=.ok (.iface 194 (.agg #[.pointer (some ⟨1,65,none⟩)])) w:=by kernel_rfl
theorem noAsC (v:Value) (xT:TypeId) (w:World):(Instr.typeAssert (.iface 65 v) xT 205 true).run Tryz.prog w=.ok (.tuple #[.nilIface,.bool false]) w:=run_typeAssert_lacksB Tryz.underlying205 (by kernel_rfl) (by kernel_rfl) v xT w
theorem tyOF (v:Value) (w:World):(ReflectliteType.typeOf #[.iface 188 v]).run Tryz.prog w=.ok (.iface 194 (.agg #[.pointer (some ⟨1,188,none⟩)])) w:=by kernel_rfl
theorem noAsF (v:Value) (xT:TypeId) (w:World):(Instr.typeAssert (.iface 188 v) xT 205 true).run Tryz.prog w=.ok (.tuple #[.nilIface,.bool false]) w:=run_typeAssert_lacksB Tryz.underlying205 (by kernel_rfl) (by kernel_rfl) v xT w
theorem unC (v:Value) (xT:TypeId) (w:World):(Instr.typeAssert (.iface 65 v) xT 198 true).run Tryz.prog w=.ok (.tuple #[.nilIface,.bool false]) w:=run_typeAssert_lacksB Tryz.underlying198 (by kernel_rfl) (by kernel_rfl) v xT w
theorem unF (v:Value) (xT:TypeId) (w:World):(Instr.typeAssert (.iface 188 v) xT 198 true).run Tryz.prog w=.ok (.tuple #[.iface 188 v,.bool true]) w:=run_typeAssert_hasB Tryz.underlying198 (by kernel_rfl) v xT w
theorem usC (v:Value) (xT:TypeId) (w:World):(Instr.typeAssert (.iface 65 v) xT 200 true).run Tryz.prog w=.ok (.tuple #[.nilIface,.bool false]) w:=run_typeAssert_lacksB Tryz.underlying200 (by kernel_rfl) (by kernel_rfl) v xT w
theorem meUF (v : Value) (w : World) : (Go.method 338 188 v "Unwrap").run Tryz.prog w = .ok (116, v) w := by kernel_rfl
theorem asgCC (w : World) : (ReflectliteType.relation "AssignableTo" ReflectliteType.assignableTo #[.agg #[.pointer (some ⟨1, 65, none⟩)], .iface 194 (.agg #[.pointer (some ⟨1, 65, none⟩)])]).run Tryz.prog w = .ok (.bool true) w := by kernel_rfl
theorem asgFC (w : World) : (ReflectliteType.relation "AssignableTo" ReflectliteType.assignableTo #[.agg #[.pointer (some ⟨1, 188, none⟩)], .iface 194 (.agg #[.pointer (some ⟨1, 65, none⟩)])]).run Tryz.prog w = .ok (.bool false) w := by kernel_rfl
set_option maxHeartbeats 4000000 in
theorem asC (n:Nat):∀ (E:Er2) (v:Value) (old:Int) (t a:Nat) (w:World),E.depth < n→ErAt w E v→Blk w t 65 #[.int .i64 old]→Blk w a 131 #[.pointer (some ⟨t,0,none⟩)] →
  Calls Tryz.prog 84 #[v,.iface 131 (.pointer (some ⟨t,0,none⟩)),.agg #[.pointer (some ⟨1,131,none⟩),.pointer (some ⟨a,0,none⟩),.int .u64 150],.iface 194 (.agg #[.pointer (some ⟨1,65,none⟩)])] w fun ev w'=>ev=.returned (.bool true)∧Blk w' t 65 #[.int .i64 E.first]∧Fr (only t) w w':=by
 induction n with
 | zero=>intro E v old t a w hd;omega
 | succ n ih =>
  intro E v old t a w hd hE hT hA
  clear ih
  have h6:=@run_callFunc_extern Tryz.prog 81 _ (fun args=>ReflectliteValue.unpack (args.getD 0 (.tuple #[]))) Tryz.func81 (by kernel_rfl) (by kernel_rfl) (by kernel_rfl) (by kernel_rfl)
  have h10:=@run_callFunc_extern Tryz.prog 79 _ ReflectliteType.typeOf Tryz.func79 (by kernel_rfl) (by kernel_rfl) (by kernel_rfl) (by kernel_rfl)
  have h35 := @run_callFunc_extern Tryz.prog 118 _ (ReflectliteType.relation "AssignableTo" ReflectliteType.assignableTo) Tryz.func118 (by kernel_rfl) (by kernel_rfl) (by kernel_rfl) (by kernel_rfl)
  have h11 := @run_callFunc_extern Tryz.prog 87 _ (ReflectliteValue.method (ReflectliteValue.valueError "reflectlite.Value.Elem" 0) ReflectliteValue.elem) Tryz.func87 (by kernel_rfl) (by kernel_rfl) (by kernel_rfl) (by kernel_rfl)
  have h12:=@run_callFunc_extern Tryz.prog 88 _ ReflectliteValue.set Tryz.func88 (by kernel_rfl) (by kernel_rfl) (by kernel_rfl) (by kernel_rfl)
  have x_tyOC:=tyOC
  have x_tyOF:=tyOF
  have x_noAsC:=noAsC
  have x_noAsF:=noAsF
  have x_unC:=unC
  have x_unF:=unF
  have x_usC:=usC
  have x_meUF:=meUF
  have x_asgCC:=asgCC
  have x_asgFC:=asgFC
  have x_methodAssignableTo:=methodAssignableTo
  have x_valueOfC:=valueOfC
  obtain ⟨w0,hw0⟩:∃ w0,w0=w.alloc (.cells #[.pointer (some ⟨1,131,none⟩),.pointer (some ⟨a,0,none⟩),.int .u64 150] 180):=⟨_,rfl⟩
  have f0:Fr none_ w w0:=by rw [hw0];exact (Fr.refl none_ w).alloc _
  have BX:Hid (Blk w0 w.heap.size 180 #[.pointer (some ⟨1,131,none⟩),.pointer (some ⟨a,0,none⟩),.int .u64 150]):=hid_ (by rw [hw0];exact Blk.new w _ _)
  have F0:=hid_ f0
  have HE0:=hid_ (hE.keep f0)
  have T0:=hid_ (hT.fr f0 id)
  have A0:=hid_ (hA.fr f0 id)
  clear f0 hE hT hA
  go_enter Tryz.func84,Tryz.ntmps84
  go_wp2_with fail
  change Code.wp _ _ _ _ (w.alloc (.cells #[.pointer (some ⟨1,131,none⟩),.pointer (some ⟨a,0,none⟩),.int .u64 150] 180))
  rw [← hw0]
  clear hw0
  go_loopg [0] (E.depth+1) (fun k v wr=>∃ E',E'.depth < k∧E'.depth≤E.depth∧E'.first=E.first∧ErAt wr E' v∧Fr none_ w0 wr)
  case atStart=>exact ⟨E,by omega,by omega,rfl,HE0.out,Fr.refl _ _⟩
  case round =>
   obtain ⟨E',hk,hd',hrel,hE,hF⟩:=hrel
   have F:=hid_ (F0.out.then_none hF)
   have bx:=BX.out.fr hF id
   have g0:wr.cell? ⟨w.heap.size,0,none⟩=some (.pointer (some ⟨1,131,none⟩)):=bx.cell' rfl
   have g1:wr.cell? ⟨w.heap.size,1,none⟩=some (.pointer (some ⟨a,0,none⟩)):=bx.cell' rfl
   have g2:wr.cell? ⟨w.heap.size,2,none⟩=some (.int .u64 150):=bx.cell' rfl
   have BXr:=hid_ bx
   have Tr:=hid_ (T0.out.fr hF id)
   have Ar:=hid_ (A0.out.fr hF id)
   have HR:=hid_ hrel
   have HF:=hid_ hF
   clear bx hrel hF BX T0 A0 HE0
   match E',hk,hd',HR,hE with
   | .code k,hk,hd',HR,hE =>
    obtain rfl:=hE
    have el:=elemV ⟨a,0,none⟩ ⟨t,0,none⟩ wr (Ar.out.cell' rfl)
    obtain ⟨w1,hw1⟩:∃ w1,w1=wr.alloc (.cells #[.int .i64 k] 65):=⟨_,rfl⟩
    have f1:Fr none_ wr w1:=by rw [hw1];exact (Fr.refl none_ wr).alloc _
    have B1:Blk w1 wr.heap.size 65 #[.int .i64 k]:=by rw [hw1];exact Blk.new wr _ _
    have T1:=Tr.out.fr f1 id
    have st:=setC ⟨t,0,none⟩ ⟨wr.heap.size,0,none⟩ k (.int .i64 old) w1 (B1.cell' rfl) (T1.cell' rfl) (T1.frozen 0)
    have fin:Hid (Blk (w1.setCell ⟨t,0,none⟩ (.int .i64 k)) t 65 #[.int .i64 k]∧Fr (only t) w (w1.setCell ⟨t,0,none⟩ (.int .i64 k))):=hid_ ⟨T1.set_ 0 _,(F.out.then_none f1).toOnly (p:=⟨t,0,none⟩) _⟩
    clear B1 T1 f1
    subst hw1
    go_wp2_with fail
    go_ret
    exact ⟨rfl,by rw [← HR.out];exact fin.out.1,fin.out.2⟩
   | .at_ p s e,hk,hd',HR,hE =>
    obtain ⟨b,ve,rfl,hb,he⟩:=hE
    obtain ⟨et,ex,rfl⟩:=he.iface
    have HB:=hid_ hb
    have HE:=hid_ he
    have hde:e.depth+1=(Er2.at_ p s e).depth:=rfl
    clear hb he
    go_wp2_with fail
    refine (unwrapF b _ HB.out).mono ?_
    rintro ev w1 ⟨rfl,rfl⟩
    go_wp2_with fail
    go_roundg (gk - 1)
    case rel=>exact ⟨e,by omega,by omega,HR.out,HE.out,HF.out⟩
    case measure=>omega
set_option maxHeartbeats 4000000 in
theorem asTopC (E:Er2) (v:Value) (old:Int) (t:Nat) (w:World) (hE:ErAt w E v) (hL:Laid w) (hT:Blk w t 65 #[.int .i64 old]) :
  Calls Tryz.prog 57 #[v,.iface 131 (.pointer (some ⟨t,0,none⟩))] w fun ev w'=>ev=.returned (.bool true)∧Blk w' t 65 #[.int .i64 E.first]∧Fr (only t) w w':=by
 have h6:=@run_callFunc_extern Tryz.prog 81 _ (fun args=>ReflectliteValue.unpack (args.getD 0 (.tuple #[]))) Tryz.func81 (by kernel_rfl) (by kernel_rfl) (by kernel_rfl) (by kernel_rfl)
 have h7 := @run_callFunc_extern Tryz.prog 82 _ (ReflectliteValue.methodAny (ReflectliteValue.valueError "reflectlite.Value.Type" 0) (fun t _ _ _ => ReflectliteType.toType t)) Tryz.func82 (by kernel_rfl) (by kernel_rfl) (by kernel_rfl) (by kernel_rfl)
 have h8 := @run_callFunc_extern Tryz.prog 83 _ (ReflectliteValue.method (ReflectliteValue.valueError "reflectlite.Value.IsNil" 0) ReflectliteValue.isNil) Tryz.func83 (by kernel_rfl) (by kernel_rfl) (by kernel_rfl) (by kernel_rfl)
 have h27:=@run_callFunc_extern Tryz.prog 103 _ (ReflectliteType.abiMethod fun t=>do pure (.int .u8 (← Rtype.kind t))) Tryz.func103 (by kernel_rfl) (by kernel_rfl) (by kernel_rfl) (by kernel_rfl)
 have h37:=@run_callFunc_extern Tryz.prog 120 _ (ReflectliteType.method ReflectliteType.elem) Tryz.func120 (by kernel_rfl) (by kernel_rfl) (by kernel_rfl) (by kernel_rfl)
 have h38 := @run_callFunc_extern Tryz.prog 121 _ (ReflectliteType.relation "Implements" ReflectliteType.implements_) Tryz.func121 (by kernel_rfl) (by kernel_rfl) (by kernel_rfl) (by kernel_rfl)
 have x_valueOfT:=valueOfT
 have x_typeT:=typeT
 have x_methodKind:=methodKind
 have x_methodElem:=methodElem
 have x_methodImplements:=methodImplements
 have x_kindT:=kindT
 have x_kindC:=kindC
 have x_elemT:=elemT
 have x_implementsC:=implementsC
 obtain ⟨w1,hw1⟩:∃ w1,w1=w.alloc (.cells #[.pointer (some ⟨t,0,none⟩)] 131):=⟨_,rfl⟩
 obtain ⟨w2,hw2⟩:∃ w2,w2=w1.alloc (.cells #[.pointer (some ⟨1,131,none⟩),.pointer (some ⟨w.heap.size,0,none⟩),.int .u64 150] 180):=⟨_,rfl⟩
 have f2:Fr none_ w w2:=by rw [hw2,hw1];exact ((Fr.refl none_ w).alloc _).alloc _
 have B2:Blk w2 w.heap.size 131 #[.pointer (some ⟨t,0,none⟩)]:=by rw [hw2,hw1];exact (Blk.new w _ _).alloc _
 have L2:Laid w2:=hL.fr f2 id
 have hg2:w2.cell? ⟨0,0,none⟩=some (.iface 194 (.agg #[.pointer (some ⟨1,30,none⟩)])):=L2
 have n8:=isNilT ⟨w.heap.size,0,none⟩ ⟨t,0,none⟩ w2 (B2.cell' rfl)
 have H2:=hid_ (And.intro (hE.keep f2) (And.intro (hT.fr f2 id) (And.intro B2 f2)))
 obtain ⟨et,ex,rfl⟩:=hE.iface
 clear hE hL hT f2 B2 L2
 have K2:=hw2
 rw [hw1] at K2
 have HK2:=hid_ K2
 clear K2
 subst hw2
 subst hw1
 go_enter Tryz.func57,Tryz.ntmps57
 go_wp2_with fail
 refine (asC (E.depth+1) E _ old t w.heap.size _ (by omega) H2.out.1 H2.out.2.1 H2.out.2.2.1).mono ?_
 rintro ev w3 hp
 have HP:=hid_ hp
 clear hp
 obtain ⟨rfl,hb,hf⟩:=HP.out
 have FN:=hid_ (And.intro hb (H2.out.2.2.2.trans hf (fun _ _ h=>h.elim) (fun _ _ h=>h):Fr (only t) w w3))
 clear hb hf HP
 go_wp2_with fail
 go_ret
 exact ⟨rfl,FN.out⟩
theorem codeE (E:Er2) (v:Value) (w:World) (hE:ErAt w E v) (hL:Laid w):Calls Tryz.prog 19 #[v] w fun e w'=>e=.returned (.int .i64 E.first)∧Fr none_ w w':=by
  have HE:=hid_ hE
  have HL:=hid_ hL
  clear hL hE
  go_enter Tryz.func19,Tryz.ntmps19
  go_wp2_with fail
  refine (asTopC E v 0 w.heap.size _ (HE.out.keep ((Fr.refl none_ w).alloc _)) (HL.out.alloc _) (Blk.new w _ _)).mono ?_
  rintro e w1 ⟨rfl,hb,hf⟩
  have c0:w1.cell? ⟨w.heap.size,0,none⟩=some (.int .i64 E.first):=hb.cell' rfl
  have F1:=hid_ (((Fr.refl none_ w).alloc (.cells #[.int .i64 0] 65)).then_only hf (.inr (Nat.le_refl _)))
  clear hb hf
  go_wp2_with fail
  go_ret
  exact ⟨rfl,F1.out⟩
end Go.Proofs.YthcpccddcgbanaaGreatDoor
