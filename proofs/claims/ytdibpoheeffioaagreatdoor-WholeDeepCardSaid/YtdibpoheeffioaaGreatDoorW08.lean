/- Part 8 of the proof that WholeDeep returns true; no condition. -/
import Derived.Test.YtdibpoheeffioaaGreatDoorW07
import Derived.ChangeSame
namespace Go.Proofs.YtdibpoheeffioaaGreatDoor
set_option linter.all false
section
open Go Go.ChangeShapes Go.WideShapes Go.RowKit
set_option maxRecDepth 4000
theorem keptAll {W W':World} (h:W'.os=W.os∧W'.output=W.output∧∀(b:Nat) (o:Obj),W.heap[b]?=some o→W'.heap[b]?=some o) (may:MemPlace→Prop):W.keptBut W' may:=by
  refine ⟨h.1,h.2.1,fun i hi=>?_⟩;have:W'.heap[i]?=W.heap[i]?:=by rw [Array.getElem?_eq_getElem hi];exact h.2.2 i _ (Array.getElem?_eq_getElem hi)
  rw [this]
  split<;>simp_all
theorem sameAll {W W':World} (h:∀(b:Nat) (o:Obj),W.heap[b]?=some o→W'.heap[b]?=some o) {p:MemPlace} (hp:p.block<W.heap.size):W.sameAt W' p:=by
  have hb:∀b,b<W.heap.size→W'.heap[b]?=W.heap[b]?:=fun b hb=>by rw [Array.getElem?_eq_getElem hb];exact h b _ (Array.getElem?_eq_getElem hb)
  cases p with
  | cell b o=>exact World.cell?_of_block (w:=W) (hb b hp)
  | map b=>exact hb b hp
theorem stack {w0:World} {A:HProp} {L:List HProp} {w:World} (f:∀ {L:List HProp} {w:World},Sat (allR w0::L) w→Sat (A::allR w0::L) w) (h:Sat (allR w0::L) w):Sat (allR w0::A::L) w:=Ent.swap.sat (f h)
theorem tops (l:List Sq) (p:Sq→Prop) (h:∀k,k<l.length→p (l.getD k dSq)):∀x∈l,p x:=fun x hx=>by
  obtain ⟨i,hi,rfl⟩:=List.mem_iff_getElem.1 hx;have:=h i hi
  rwa [List.getD_eq_getElem?_getD,List.getElem?_eq_getElem hi] at this
theorem starErr: "*"++ "errors.errorString"= "*errors.errorString":=by decide
theorem row_err (u:TypeId) (h:Tryz.prog.typeName? 3 u=some "*errors.errorString"):u=491 :=
  typeName_ptr_named (nm:= "errors.errorString") (by rw [starErr];kernel_rfl) qj (by decide) u (by rw [starErr];exact h)
theorem listed {W:World} (hsh:W.ShapedOpen Tryz.prog) (h:laidMetH Tryz.prog Rows.wholeDeepRow.laid W) :
    W.heap[2]?=some (.cells (Lib.deBruijn64tab.map U8).toArray 477 (0,0))∧W.heap[3]?=some (.cells p10L.toArray 484 (0,0))∧∃et ep,W.heap[0]?=some (.cells (List.toArray [.iface et ep]) 258 (0,0)):=by
  rw [MakeChecks.laidMetH_plain _ _ _ qj] at h;have h1:=h.tail;have h2:=h1.tail;have h4:=h2.tail.tail;obtain ⟨c2,hc2⟩:=glob_at hsh (g:=2) (t:=477) (of_decide_eq_true qj) qj;obtain ⟨c3,hc3⟩:=glob_at hsh (g:=3) (t:=484) (of_decide_eq_true qj) qj;obtain ⟨c0,hc0⟩:=glob_at hsh (g:=0) (t:=258) (of_decide_eq_true qj) qj;have t2:Lib.TabIs Tryz.prog W "math/bits.deBruijn64tab" .u8 (Lib.deBruijn64tab.map fun z=>((z:Nat):Int)):=Lib.tabIs_of_head glob_tab type_tab Tryz.underlying477 Tryz.underlying5 qj qj h1;have t3:Lib.TabIs Tryz.prog W "internal/strconv.uint64pow10" .u64 ((List.range 20).map fun z=>((10^z:Nat):Int)):=Lib.tabIs_of_head glob_p10 type_p10 Tryz.underlying484 Tryz.underlying199 qj qj h2;refine ⟨?_,?_,?_⟩
  · have:=glob_is glob_tab t2 hc2;rw [List.map_map] at this;exact this
  · have:=glob_is glob_p10 t3 hc3;rw [List.map_map] at this;exact this
  · obtain ⟨a,s,hv,_⟩:=laid_sentinel h4 glob_err type_err Tryz.underlying258 row_err Tryz.underlying491 Tryz.underlying493 rfl rfl Tryz.underlying9 qj qj;exact ⟨_,_,glob_is glob_err hv hc0⟩
theorem laidOut0:laidOutB Tryz.prog=true:=fact1
theorem door_met (os:Os) (args:Array Value):laidMetH Tryz.prog Rows.wholeDeepRow.laid ((World.doorLaid Tryz.prog 62 os).forCall (fun _ _=>0) ⟨#[],args,[]⟩).memory :=
  laidMetH_of_parts3 (fuel:=8) (laidMet_of_run' 8 qj qj) qj qj
section
variable {H:Type} {enc:TypeId×Value→H}
theorem contract {W:World} {base:Nat} {args:Array Value} {ds gs:List (DataW H)} {before:List MemPlace} (hsh:W.ShapedOpen Tryz.prog)
    (hval0:∀(j:Nat) t v,Tryz.f3.params[j]?=some t→args[j]?=some v→Value.okWide Tryz.prog W .any base t v)
    (hW:DataW.Whole enc Tryz.prog Tryz.f3.params.toList Rows.wholeDeepSpec.vars false W args.toList ds gs before) (hL:laidMetH Tryz.prog Rows.wholeDeepRow.laid W) :
    Calls Tryz.prog 3 args W fun e W'=>∃v,e=.returned v∧Rows.wholeDeepSpec.post enc Tryz.prog Tryz.f3 false true false false W args v W':=by
  have hW':=hW;have hlt:=hW.lt;obtain ⟨p,q,hA0,hV0,rfl,hfz,hnd⟩:=hW;have hV:DataW.TrodVars enc Tryz.prog W (fun _=>true) [] gs q:=hV0;have hA:DataW.TrodAll enc Tryz.prog W 0 (fun _=>true) true Tryz.f3.params.toList args.toList ds p:=hA0;have hval:∀(j:Nat) t v,Tryz.f3.params[j]?=some t→args[j]?=some v→Value.okWide Tryz.prog W .any base t v:=hval0;rw [Tryz.params3] at hA hval;obtain ⟨v0,v1,d0,d1,p0,p1,rfl,rfl,rfl,h0,h1⟩:=trodAll_two hA;obtain ⟨rfl,rfl⟩:=trodVars_none hV;obtain ⟨a0,l0,c0,rfl⟩:=okWide_slice Tryz.underlying22 (hval 0 22 v0 rfl rfl);obtain ⟨a1,l1,c1,rfl⟩:=okWide_slice Tryz.underlying23 (hval 1 23 v1 rfl rfl);have h0':=h0;have h1':=h1;obtain ⟨f0,g0⟩:=h0;obtain ⟨f1,g1⟩:=h1;obtain ⟨sa,sc,ss,e0,hb,hok,hrd⟩:=read_steps (v:=.slice a0 l0 c0) g0;obtain ⟨qa,qc,ps,e1,hbq,hpr,hrq⟩:=read_pairs (v:=.slice a1 l1 c1) g1;obtain ⟨b2,b3,et,ep,b0⟩:=listed hsh hL;cases e0;cases e1;have s1:=stack (A:=rd 2 (.cells (Lib.deBruijn64tab.map U8).toArray 477 (0,0))) (fun h=>(all_rd b2).sat h) (sat_all W);have s2:=stack (A:=errG et ep) (fun h=>(all_rd b0).sat h) s1;have s3:=stack (A:=pw10) (fun h=>(all_rd b3).sat h) s2;have s4:=stack hrq s3;have hall:=tops ss (fun s=>SqOk s∧Rdable W (.slice s.ta s.es.length s.tc) 2 (tcells s.es)∧Rdable W (.slice s.pa s.l.length s.pc) 1 (u8s s.l)) hok;have s5:=stack (A:=box (ss.map sPa)) (fun h=>sat_boxes (fun x hx=>(hall x hx).2.2) h) s4;have s6:=stack (A:=box (ss.map sTr)) (fun h=>sat_boxes (fun x hx=>(hall x hx).2.1) h) s5;have s7:=stack hrd s6;have s8:Sat (rds (.slice a0 ss.length c0) 5 (scells ss)::box (ss.map sTr)::box (ss.map sPa)::rds (.slice a1 ps.length c1) 2 (pcells ps)::pw10::errG et ep::tabA::[allR W]) W:=(by repeat (first | exact .refl | exact .nil | apply Pm.cons | exact .here | apply Sel.there | apply Pm.drop):Pm _ _).sat _ s7;refine ((sp3 ss.length c0 ps.length c1 a0 a1 ss ps et ep rfl rfl hb hbq (fun k hk=>(hok k hk).1) hpr).2 [allR W] W s8).mono fun e W' ⟨r,L',he,⟨hr,hL'⟩,hs⟩=>?_;subst hr hL';have hk:=all_kept hs;have hold:∀x∈(p0++p1)++[],x.block<W.heap.size:=hlt;have k0:∀x∈p0,x.block<W.heap.size:=fun x hx=>hold x (by simp [hx]);have k1:∀x∈p1,x.block<W.heap.size:=fun x hx=>hold x (by simp [hx]);refine ⟨_,he,[d0,d1],[],_,[],p0++(p1++[]),[],hW',?_,?_,?_,keptAll hk _,fun h=>by cases h⟩
  · exact trodAll_mk1 (shut_bool Tryz.underlying4 true)
  · exact ⟨p0,p1++[],WideElems.Trod_stays laidOut0 qj (of_decide_eq_true qj) h0' (fun x hx=>sameAll hk.2.2 (k0 x hx)) (fun x hx=>by simpa using k0 x hx),
      ⟨p1,[],WideElems.Trod_stays laidOut0 qj (of_decide_eq_true qj) h1' (fun x hx=>sameAll hk.2.2 (k1 x hx)) (fun x hx=>by simpa using k1 x hx),rfl,rfl⟩,rfl⟩
  · rfl
end
set_option maxRecDepth 100000 in
theorem lifted (os:Os) (started:os.Started) (H:Type) (enc:TypeId×Value→H) :
    ReturnsInHanded {} Tryz.checked os 3 .any (fun w args=>(Rows.wholeDeepSpec.pre enc Tryz.prog Tryz.f3 [] false w args∧laidMetH Tryz.prog Rows.wholeDeepRow.laid w)∧sizedMet enc Tryz.prog Tryz.f3 (OpenSpec.ofChange Rows.wholeDeepSpec) false w args)
      (Rows.wholeDeepSpec.post enc Tryz.prog Tryz.f3 false true false false):=by
  refine handed_shaped (C:=Tryz.checked) (X:=fun w _=>laidMetH Tryz.prog Rows.wholeDeepRow.laid w) (fun _ _ _ hh h=>h.of_heap hh) qj started qj Tryz.func3
    (ChangeSpec.witness_shaped (enc:=enc) (C:=Tryz.checked) (os:=os) (X:=fun w _=>laidMetH Tryz.prog Rows.wholeDeepRow.laid w) false (World.doorLaid Tryz.prog 62 os) #[.slice none 0 0,.slice none 0 0] 8 rfl (World.shaped_of_RefB qj qj) qj qj qj (door_met os _)) ?_
  intro W base args ds gs before hsh hval hW hL;exact contract hsh hval hW hL
end
end Go.Proofs.YtdibpoheeffioaaGreatDoor
