/- No node has parts that are not over and want more than it has: for every input the law returns true, and each argument reads behind the call as it read before. The listed variables are laid and tied. No further condition. -/
import Derived.Test.YtimlcnhcjndijaaGreatDoorF37
set_option linter.all false
set_option maxRecDepth 100000
set_option maxHeartbeats 3200000
namespace Go.Proofs.YtimlcnhcjndijaaGreatDoor
open Go.Proofs.Tryz
section
open Go.ChangeShapes Go.WideShapes Go.ChangeAt Go.RowKit Go.ChangeMaps
def A1c (os:Os) (c:os.Started) (H:Type) (enc:TypeId×Value->H) :
  ReturnsInHanded {} Tryz.checked os 4 .any (fun w args=>(Rows.tableFitsSpec.pre enc prog f4 Rows.tableFitsRow.domain false w args/\laidMetH prog Rows.tableFitsRow.laid w)/\sizedMet enc prog f4 (OpenSpec.ofChange Rows.tableFitsSpec) false w args)
   (Rows.tableFitsSpec.post enc prog f4 false true false false):=by
 refine An0 (C:=Tryz.checked) (X:=fun w _=>laidMetH prog Rows.tableFitsRow.laid w) (fun _ _ _ hh h=>h.of_heap hh) own c (by kernel_rfl) func4
  (ChangeSpec.witness_shaped (enc:=enc) (C:=Tryz.checked) (os:=os) (X:=fun w _=>laidMetH prog Rows.tableFitsRow.laid w) false (World.laidAll prog os Rows.tableFitsRow.laid) #[.string ByteArray.empty,.slice none 0 0] 8 (World.laidAll_os _ _ _)
    (World.shaped_of_ZipB (by kernel_rfl) (by kernel_rfl)) (by kernel_rfl) (by kernel_rfl) (by kernel_rfl)
    (by rw [MakeChecks.laidMetH_plain _ _ _ (by kernel_rfl)];exact laidMet_laidAll _ (by kernel_rfl) (by kernel_rfl))) ?_
 intro W base args z gs g b s hc hL m;have a:∀ (j:Nat) t v,f4.params[j]?=some t->args[j]?=some v->Value.okWide prog W .any base t v:=b;have k:=s;obtain ⟨p,q,d,hV,rfl,_,_⟩:=s;have r:DataW.TrodAll enc prog W 0 (fun _=>true) true f4.params.toList args.toList z p:=d;rw [params4] at r a;obtain ⟨v0,v1,d0,d1,p0,p1,rfl,rfl,rfl,h0,h1⟩:=trodAll_two r;obtain ⟨rfl,rfl⟩:=trodVars_none hV;obtain ⟨s0,rfl,rfl,rfl,ac⟩:=open_string Eg (a 0 9 v0 rfl rfl) h0;obtain ⟨i,n1,y,o,rfl,n,x⟩:=A1b (a 1 51 v1 rfl rfl) h1;clear d b;refine (Azt A0d W (Anz m) s0 i n1 y o n).mono fun e W' ⟨he,hw⟩=>?_;subst he;refine ⟨_,rfl,An2 k rfl (fun _ _ _=>?_) rfl rfl hw ?_⟩
 .have l:f4.resultTypes=#[4]:=by kernel_rfl
  rw [l];exact trodAll_mk1 ⟨1,by simp [DataW.trod,Value.cells,Ac3]⟩
 .rw [params4];intro t ht;have hm:t∈[9,51]:=by simpa using ht
  have f:([9,51].all fun u=>prog.readableRec u && decide (u<prog.types.size))=true:=by kernel_rfl
  have:=Vf.1 f t hm;rw [E7] at this;exact ⟨this.1,Kx this.2⟩
def A1d:Rows.TableFitsSaid:=
 OpenClaim.holds_of_wide 4 f4 rfl rfl rfl rfl rfl rfl rfl ⟨rfl,rfl,rfl,rfl,rfl⟩ rfl rfl rfl rfl rfl (by as_aux_lemma=>kernel_rfl) func4 A1a
  (Kx (by as_aux_lemma=>kernel_rfl)) (by unfold Func.isWrapper;first | (rw [Ad (by decide +kernel)];kernel_rfl) | (rw [Ac (by decide +kernel)];exact ⟨rfl,rfl⟩))
  (fun os a H enc _=>A1c os a H enc)
theorem tableFits_holds:Rows.TableFitsCardSaid:=
 Claim7.holds_tied_plain_at .later [] [.data,.pinned] true (true,"f00d3a3b54b311500f09fe0e11769c241cf9ea7bcfb4d4ab9fd4905181bcc704") false A1d (fun _ h=>by cases h) (by as_aux_lemma=>kernel_rfl) (fun _ h=>by cases h) tableFits_row_tie rfl ⟨rfl,rfl⟩ (by as_aux_lemma=>kernel_rfl) rfl
  (fun f fn d b=>by
    obtain rfl:f=4:=Lx ((show prog.funcNamed "corvee/corveelaw14.TableFits"=some 4 by kernel_rfl).symm.trans d) |>.symm;obtain rfl:fn=f4:=(Lx (func4.symm.trans b)).symm
    exact ⟨by kernel_rfl,fun j t c=>by
    rw [params4] at c;have e:t∈[9,51]:=(by simpa using Array.mem_of_getElem? c);have a:([9,51].all fun u=>!prog.wantsStandIn u)=true:=by kernel_rfl
    exact (show prog.wantsStandIn t=false by simpa using Vf.1 a t e)⟩)
  (by as_aux_lemma=>kernel_rfl)
