/- Part 6 of the proof that WholeDeep returns true; no condition. -/
import Derived.Test.YtdibpoheeffioaaGreatDoorW05
import Derived.Test.YtdibpoheeffioaaGreatDoorRows
import Derived.ProofKit
import Derived.LaidMore
import Derived.Carry
import Derived.Stop.LaidErr
import Derived.Lib.LaidTab
namespace Go.Proofs.YtdibpoheeffioaaGreatDoor
set_option linter.all false
section
open Go Go.ChangeShapes Go.WideShapes Go.RowKit
set_option maxRecDepth 4000
theorem handed_shaped {H:Type} {enc:TypeId×Value→H} {a:Assume} {C:Checked} {os:Os} {f:FuncId} {fn:Func} {s:ChangeSpec} {conds:List PathCond} {apart fresh handsOn again:Bool} {X:World→Array Value→Prop}
    (hX:∀(w w':World) (args:Array Value),w.heap=w'.heap→X w args→X w' args)
    (own:ownKnob C.prog.godebug=none) (started:os.Started) (noInit:C.prog.inits.idxOf? f=none) (hfn:C.prog.funcs[f]?=some fn)
    (witness:∃(w:World) (tape:Tape) (i:Input),w.os=os∧(w.forCall tape i).Shaped C.prog∧i.vars=[]∧Input.okWide C.prog (w.forCall tape i) .any w.heap.size f i ∧
      ((s.pre enc C.prog fn conds apart (w.forCall tape i).memory i.args∧X (w.forCall tape i).memory i.args)∧sizedMet enc C.prog fn (OpenSpec.ofChange s) apart (w.forCall tape i).memory i.args)∧a.holds C.prog (lone (Frame.enter C.prog f i.args .normal) [] (w.forCall tape i)))
    (contract:∀(W:World) (base:Nat) (args:Array Value) (ds gs:List (DataW H)) (before:List MemPlace),W.ShapedOpen C.prog →
      (∀(j:Nat) t v,fn.params[j]?=some t→args[j]?=some v→Value.okWide C.prog W .any base t v) →
      DataW.Whole enc C.prog fn.params.toList s.vars apart W args.toList ds gs before→X W args →
      Calls C.prog f args W fun e W'=>∃v,e=.returned v∧s.post enc C.prog fn apart fresh handsOn again W args v W') :
    ReturnsInHanded a C os f .any (fun w args=>(s.pre enc C.prog fn conds apart w args∧X w args)∧sizedMet enc C.prog fn (OpenSpec.ofChange s) apart w args) (s.post enc C.prog fn apart fresh handsOn again):=by
  refine returnsInHanded_of_calls own started noInit witness ?_;intro w tape i _ hsh _ hok hpre _;obtain ⟨_,_,_,fn',hfn',_,_,_,_,hval⟩:=hok;have e:fn'=fn:=Option.some.inj (hfn'.symm.trans hfn);subst e;obtain ⟨⟨⟨ds,gs,before,hw,_⟩,hx⟩,_⟩:=hpre;have hw':=DataW.Whole.of_heap (w':=w.forCall tape i) (by rfl) hw;refine (contract (w.forCall tape i) w.heap.size i.args ds gs before hsh hval hw' (hX _ _ _ (by rfl) hx)).mono fun e W' ⟨v,he,hp⟩=>?_;subst he;exact ChangeSpec.post_blind hp
theorem glob_at {W:World} (h:W.ShapedOpen Tryz.prog) {g t:Nat} (hg:g<Tryz.prog.globals.size) (ht:(((begin Tryz.prog (fun _ _=>0) default).world.heap[g]?).bind Obj.row?).map (·.2)=some t):∃cs,W.heap[g]?=some (.cells cs t (0,0)):=by
  obtain ⟨⟨zero,t'⟩,h1,rfl⟩:=Option.map_eq_some_iff.1 ht;obtain ⟨cs,h2,_⟩:=h.1 g zero t' hg h1;exact ⟨cs,h2⟩
theorem glob_is {W:World} {n:String} {g E:Nat} {cs cs':Array Value} {fz:Nat×Nat} (hg:Tryz.prog.globalNamed n=some g) (hv:W.var? Tryz.prog n=some cs) (hb:W.heap[g]?=some (.cells cs' E fz)):W.heap[g]?=some (.cells cs E fz):=by
  unfold World.var? at hv;rw [hg] at hv;simp only [Option.bind_some,hb,Option.some.injEq] at hv;rw [hb,hv]
theorem glob_tab:Tryz.prog.globalNamed "math/bits.deBruijn64tab"=some 2:=by kernel_rfl
theorem glob_p10:Tryz.prog.globalNamed "internal/strconv.uint64pow10"=some 3:=by kernel_rfl
theorem glob_err:Tryz.prog.globalNamed "strconv.ErrSyntax"=some 0:=by kernel_rfl
theorem type_tab:(Tryz.prog.globals[2]?).map (·.type)=some 477:=by kernel_rfl
theorem type_p10:(Tryz.prog.globals[3]?).map (·.type)=some 484:=by kernel_rfl
theorem type_err:(Tryz.prog.globals[0]?).map (·.type)=some 258:=by kernel_rfl
end
end Go.Proofs.YtdibpoheeffioaaGreatDoor
