/- swarflaw22.DrawingParse returns true for every input (a tied card). -/
import Derived.Test.YtbehlcfelmbmlaaGreatDoorCardD
import Derived.Test.YtbehlcfelmbmlaaGreatDoorAwk
import Derived.Test.YtbehlcfelmbmlaaGreatDoorDcC
section
namespace Eng
open Go Go.Proofs
set_option maxRecDepth 100000
theorem Fj (al:List A) (h:All2 (PH Tryz.prog 10) [9] al):qf CC 4 al [.c (.bool true)]:=by
  match al,h with
  |[a],h=>
    obtain⟨s,rfl⟩:=HM h.1
    exact NP Wk s
  |[],h=>exact h.elim
  |_::_::_,h=>exact h.2.elim
end Eng
namespace Go.Proofs.YtbehlcfelmbmlaaGreatDoor
open Go.ChangeShapes Go.WideShapes Go.ChangeAt Go.RowKit
set_option maxRecDepth 100000 in
theorem Gq (os:Os) (started:os.Started) (H:Type) (enc:TypeId×Value→H):
    ReturnsInHanded {} Tryz.checked os 4 .any (fun w args=>(Rows.drawingParseSpec.pre enc Tryz.prog Tryz.f4 [] false w args∧laidMetH Tryz.prog Rows.drawingParseRow.laid w)∧sizedMet enc Tryz.prog Tryz.f4 (OpenSpec.ofChange Rows.drawingParseSpec) false w args)
      (Rows.drawingParseSpec.post enc Tryz.prog Tryz.f4 false true false false):=by
  refine returnsInHanded_of_change_and (C:=Tryz.checked) (X:=fun w _=>laidMetH Tryz.prog Rows.drawingParseRow.laid w) (fun _ _ _ hh h=>h.of_heap hh) Eng.ownK started (by kernel_rfl) Tryz.func4
    (ChangeSpec.witness_shaped (enc:=enc) (C:=Tryz.checked) (os:=os) (X:=fun w _=>laidMetH Tryz.prog Rows.drawingParseRow.laid w) false (World.laidAll Tryz.prog os Rows.drawingParseRow.laid) #[.string ByteArray.empty] 8 (World.laidAll_os _ _ _)
      (World.shaped_of_ZipB (by kernel_rfl) (by kernel_rfl)) (by kernel_rfl) (by kernel_rfl) (by kernel_rfl)
      (by rw[MakeChecks.laidMetH_plain _ _ _ (by kernel_rfl)];exact laidMet_laidAll _ (by kernel_rfl) (by kernel_rfl))) ?_
  intro W base args ds gs before hval hW _ _ hL _
  have hrd:(Tryz.f4.params.toList.all fun t=>Tryz.prog.readableRec t&&(decide (t<Tryz.prog.types.size)&&(Eng.zw Tryz.prog 10 t).isSome))=true:=by kernel_rfl
  refine Eng.Io (C:=Eng.CC) (m:=10) (bt:=4) Eng.AU Tryz.underlying4 (by kernel_rfl) (fun t ht=>?_) rfl (fun ds hds=>?_) (fun al h=>?_) (Eng.CL hL) hval hW
  · have:=List.all_eq_true.1 hrd t ht
    simp only[Bool.and_eq_true,decide_eq_true_eq]at this
    exact⟨this.1,this.2.1,this.2.2⟩
  · have h2:Tryz.f4.params.size=1:=by kernel_rfl
    rw[h2]at hds
    match ds,hds with
    |[d1],_=>rfl
  · have hp:Tryz.f4.params= #[9]:=by kernel_rfl
    rw[hp]at h
    exact Eng.Fj al h
theorem cell_inPlace:(Rows.drawingParseRow.inPlace==Tryz.pinned.checked.prog.inPlace 4)=true:=by kernel_rfl
theorem cell_unfollowed:(Rows.drawingParseRow.unfollowed==Tryz.pinned.checked.prog.unfollowed 4)=true:=by kernel_rfl
theorem cell_recurses:(Rows.drawingParseRow.recurses==Tryz.pinned.checked.prog.recurses 4)=true:=by kernel_rfl
theorem cell_named:(Rows.drawingParseRow.named==Tryz.pinned.checked.prog.varsNamed 4)=true:=by kernel_rfl
theorem cell_wf:Rows.drawingParseRow.wf (OpenSpec.ofChange Rows.drawingParseSpec)=true:=by kernel_rfl
theorem cell_laidOut:laidOutB Tryz.pinned.checked.prog=true:=by kernel_rfl
theorem cell_mapsRowed:mapsRowed Tryz.pinned.checked.prog=true:=by kernel_rfl
theorem cell_enter:Tryz.pinned.checked.prog.mayEnter=true:=by kernel_rfl
theorem cell_heard:Tryz.pinned.checked.prog.stopsHeard=true:=by kernel_rfl
theorem cell_lifted:(Rows.drawingParseRow.lifted==Tryz.pinned.checked.prog.liftsFinal)=true:=by kernel_rfl
theorem cell_keys:(Rows.drawingParseRow.plainKeys==Tryz.pinned.checked.prog.plainKeys)=true:=by kernel_rfl
theorem cell_joined:joinedFacts Tryz.pinned.checked.prog 4 Tryz.f4 Rows.drawingParseSpec Rows.drawingParseRow=true:=by
  unfold joinedFacts
  rw[cell_inPlace,cell_unfollowed,cell_recurses,cell_named,cell_wf,cell_laidOut,cell_mapsRowed,cell_enter,cell_heard,cell_lifted,cell_keys]
  kernel_rfl
theorem cell_name:Tryz.pinned.checked.prog.funcNamed Rows.drawingParseRow.func=some 4:=by kernel_rfl
theorem cell_wrap:Tryz.f4.isWrapper Tryz.pinned.checked.prog Rows.drawingParseRow.wrapper Rows.drawingParseRow.mainSum:=by
  unfold Func.isWrapper;first|(rw[if_pos (by decide +kernel)];kernel_rfl)|(rw[if_neg (by decide +kernel)];exact⟨rfl,rfl⟩)
theorem cell_inst:Tryz.f4.isInstance Tryz.pinned.checked.prog Rows.drawingParseRow.origin Rows.drawingParseRow.targs:=of_decide_eq_true (by kernel_rfl)
theorem yA:Rows.DrawingParseSaid:=
  OpenClaim.holds_of_wide 4 Tryz.f4 rfl rfl rfl rfl rfl rfl rfl ⟨rfl,rfl,rfl,rfl,rfl⟩ rfl rfl rfl rfl rfl cell_name Tryz.func4 cell_joined cell_inst cell_wrap
    (fun os started H enc _=>Gq os started H enc)
theorem cell_text:Rows.drawingParseRow.wfByText (OpenSpec.ofChange Rows.drawingParseSpec)=true:=by kernel_rfl
theorem cell_main:Tryz.pinned.checked.prog.mainIs=some (true, "1b1c1c0a95f173429e67bba4b60ff61ed46bb01a142e71c89138dd536440edeb".toList):=by kernel_rfl
theorem cell_looks:true=Tryz.pinned.checked.prog.looks []:=by kernel_rfl
theorem goes_of {P:Program} {c:OpenClaim} {f:FuncId} (hn:P.funcNamed c.func=some f) (h1:((P.closure f).any fun g=>(P.funcs[g]?).any Func.goes)=false) (h2:(P.unfollowed f&&P.funcs.any Func.goes)=false) (h3:c.start= .entering):false=c.goesBy P:=by
  have h4:P.goes f=false:=by unfold Program.goes;rw[h1,h2];rfl
  unfold OpenClaim.goesBy Program.goesAt Program.goesFrom
  rw[hn,h3]
  show false=(P.goes f||false)
  rw[h4];rfl
theorem cell_cg:((Tryz.pinned.checked.prog.closure 4).any fun g=>(Tryz.pinned.checked.prog.funcs[g]?).any Func.goes)=false:=by kernel_rfl
theorem cell_fg:(Rows.drawingParseRow.unfollowed&&Tryz.pinned.checked.prog.funcs.any Func.goes)=false:=by kernel_rfl
theorem cell_goes:false=Rows.drawingParseRow.goesBy Tryz.pinned.checked.prog:=
  goes_of cell_name cell_cg (by rw[←eq_of_beq cell_unfollowed];exact cell_fg) rfl
theorem cell_stand:([9].all fun u=>!Tryz.prog.wantsStandIn u)=true:=by kernel_rfl
theorem drawingParse_card:Rows.DrawingParseCardSaid:=
  Claim7.holds_tied_plain_at .later [] [.data,.data,.data,.data,.sentinel,.sentinel,.widerDeep,.data,.pinned] true (true, "1b1c1c0a95f173429e67bba4b60ff61ed46bb01a142e71c89138dd536440edeb") true yA (fun _ h=>by cases h) cell_text (fun _ h=>by cases h) drawingParse_row_tie rfl ⟨rfl,rfl⟩ cell_main rfl
    (fun f fn hf hfn=>by
      obtain rfl:f=4:=Option.some.inj (cell_name.symm.trans hf)|>.symm
      obtain rfl:fn=Tryz.f4:=(Option.some.inj (Tryz.func4.symm.trans hfn)).symm
      exact⟨cell_looks,fun j t ht=>by
        have hp:Tryz.f4.params= #[9]:=by kernel_rfl
        rw[hp]at ht
        have hm:t∈[9]:=by simpa using Array.mem_of_getElem? ht
        exact(show Tryz.prog.wantsStandIn t=false by simpa using List.all_eq_true.1 cell_stand t hm)⟩)
    cell_goes
#print axioms drawingParse_card
end Go.Proofs.YtbehlcfelmbmlaaGreatDoor
end
