/- Behind each event each job's life may be: for every input the law returns true, and each argument reads behind the call as it read before. The listed variables are laid and tied. No further condition. -/
import Derived.Test.YtimlcnhcjndijaaGreatDoorJ39
import Derived.Test.YtimlcnhcjndijaaGreatDoorJ40
set_option linter.all false
set_option maxRecDepth 100000
set_option maxHeartbeats 3200000
namespace Go.Proofs.YtimlcnhcjndijaaGreatDoor
open Option renaming none->I,some->O
open Value renaming slice->V,string->D
open Go.Proofs.Tryz
section
open Go.ChangeShapes Go.WideShapes Go.ChangeAt Go.RowKit Go.ChangeMaps
def A4a (os:Os) (c:os.Started) (H:Type) (enc:TypeId×Value->H) :
  ReturnsInHanded {} Tryz.checked os 5 .any (λw args=>(Rows.tableLivesSpec.pre enc prog f5 Rows.tableLivesRow.domain false w args/\laidMetH prog Rows.tableLivesRow.laid w)/\sizedMet enc prog f5 (OpenSpec.ofChange Rows.tableLivesSpec) false w args)
   (Rows.tableLivesSpec.post enc prog f5 false true false false):=by
 refine Ag0 (C:=Tryz.checked) (X:=λw _=>laidMetH prog Rows.tableLivesRow.laid w) (λ_ _ _ hh h=>h.of_heap hh) own c (by kernel_rfl) func5
  (ChangeSpec.witness_shaped (enc:=enc) (C:=Tryz.checked) (os:=os) (X:=λw _=>laidMetH prog Rows.tableLivesRow.laid w) false (World.laidAll prog os Rows.tableLivesRow.laid) #[D ByteArray.empty,V I 0 0] 8 (World.laidAll_os _ _ _)
    (World.shaped_of_ZipB (by kernel_rfl) (by kernel_rfl)) (by kernel_rfl) (by kernel_rfl) (by kernel_rfl)
    (by rw[MakeChecks.laidMetH_plain _ _ _ (by kernel_rfl)];exact laidMet_laidAll _ (by kernel_rfl) (by kernel_rfl))) ?_
 intro W base args z gs g b s hc hL m;have a:∀(j:Nat) t v,f5.params[j]?=O t->args[j]?=O v->Value.okWide prog W .any base t v:=b;have k:=s;obtain⟨p,q,d,hV,rfl,_,_⟩:=s;have r:DataW.TrodAll enc prog W 0 (λ_=>true) true f5.params.toList args.toList z p:=d;rw[params5]at r a;obtain⟨v0,v1,d0,d1,p0,p1,rfl,rfl,rfl,h0,h1⟩:=trodAll_two r;obtain⟨rfl,rfl⟩:=trodVars_none hV;obtain⟨s0,rfl,rfl,rfl,ac⟩:=open_string Ev (a 0 9 v0 rfl rfl) h0;obtain⟨i,n1,y,o,rfl,n,x⟩:=An2 (a 1 51 v1 rfl rfl) h1;clear d b;refine(A2z Aoc W (Agz m) s0 i n1 y o n).mono λe W' ⟨he,hw⟩=>?_;subst he;refine⟨_,rfl,Ag2 k rfl (λ_ _ _=>?_) rfl rfl hw ?_⟩
 .have l:f5.resultTypes=#[4]:=by kernel_rfl
  rw[l];exact trodAll_mk1 ⟨1,by simp[DataW.trod,Value.cells,Aad]⟩
 .rw [params5];intro t ht;have hm:t∈[9,51]:=by simpa using ht
  have f:([9,51].all λu=>prog.readableRec u && decide (u<prog.types.size))=true:=by kernel_rfl
  have:=Qv.1 f t hm;rw[Da]at this;exact⟨this.1,Kk this.2⟩
def A4b:Rows.TableLivesSaid:=
 OpenClaim.holds_of_wide 5 f5 rfl rfl rfl rfl rfl rfl rfl ⟨rfl,rfl,rfl,rfl,rfl⟩ rfl rfl rfl rfl rfl (by as_aux_lemma=>kernel_rfl) func5 A3q
  (Kk (by as_aux_lemma=>kernel_rfl)) (by unfold Func.isWrapper;first|(rw[Ad (by decide +kernel)];kernel_rfl)|(rw[Ac (by decide +kernel)];exact⟨rfl,rfl⟩))
  (λos a H enc _=>A4a os a H enc)
theorem tableLives_holds:Rows.TableLivesCardSaid:=
 Claim7.holds_tied_plain_at .later [] [.data,.pinned] true (true,"f00d3a3b54b311500f09fe0e11769c241cf9ea7bcfb4d4ab9fd4905181bcc704") false A4b (λ_ h=>by cases h) (by as_aux_lemma=>kernel_rfl) (λ_ h=>by cases h) tableLives_row_tie rfl ⟨rfl,rfl⟩ (by as_aux_lemma=>kernel_rfl) rfl
  (λf fn d b=>by
    obtain rfl:f=5:=Kn ((show prog.funcNamed "corvee/corveelaw14.TableLives"=O 5 by kernel_rfl).symm.trans d) |>.symm;obtain rfl:fn=f5:=(Kn (func5.symm.trans b)).symm
    exact⟨by kernel_rfl,λj t c=>by
    rw[params5]at c;have e:t∈[9,51]:=(by simpa using Array.mem_of_getElem? c);have a:([9,51].all λu=>!prog.wantsStandIn u)=true:=by kernel_rfl
    exact(show prog.wantsStandIn t=false by simpa using Qv.1 a t e)⟩)
  (by as_aux_lemma=>kernel_rfl)
