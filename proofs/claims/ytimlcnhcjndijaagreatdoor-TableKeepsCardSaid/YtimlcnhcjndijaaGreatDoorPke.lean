/- Nobody is put off from one pass to the next one: for every input the law returns true, and each argument reads behind the call as it read before. The listed variables are laid and tied. No further condition. -/
import Derived.Test.YtimlcnhcjndijaaGreatDoorJ43
import Derived.Test.YtimlcnhcjndijaaGreatDoorJ44
set_option linter.all false
set_option maxRecDepth 100000
set_option maxHeartbeats 3200000
namespace Go.Proofs.YtimlcnhcjndijaaGreatDoor
open IntKind renaming i64->G
open Value renaming int->Z,slice->V,string->D
open Option renaming none->I,some->O
open Go.Proofs.Tryz
section
open Go.ChangeShapes Go.WideShapes Go.ChangeAt Go.RowKit Go.ChangeMaps
def A57 (os:Os) (c:os.Started) (H:Type) (enc:TypeId×Value->H) :
  ReturnsInHanded {} Tryz.checked os 6 .any (λw args=>(Rows.tableKeepsSpec.pre enc prog f6 Rows.tableKeepsRow.domain false w args/\laidMetH prog Rows.tableKeepsRow.laid w)/\sizedMet enc prog f6 (OpenSpec.ofChange Rows.tableKeepsSpec) false w args)
   (Rows.tableKeepsSpec.post enc prog f6 false true false false):=by
 refine Ag0 (C:=Tryz.checked) (X:=λw _=>laidMetH prog Rows.tableKeepsRow.laid w) (λ_ _ _ hh h=>h.of_heap hh) own c (by kernel_rfl) func6
  (ChangeSpec.witness_shaped (enc:=enc) (C:=Tryz.checked) (os:=os) (X:=λw _=>laidMetH prog Rows.tableKeepsRow.laid w) false (World.laidAll prog os Rows.tableKeepsRow.laid) #[D ByteArray.empty,V I 0 0,Z G 0] 8 (World.laidAll_os _ _ _)
    (World.shaped_of_ZipB (by kernel_rfl) (by kernel_rfl)) (by kernel_rfl) (by kernel_rfl) (by kernel_rfl)
    (by rw[MakeChecks.laidMetH_plain _ _ _ (by kernel_rfl)];exact laidMet_laidAll _ (by kernel_rfl) (by kernel_rfl))) ?_
 intro W base args z gs g b s hc hL m;have a:∀(j:Nat) t v,f6.params[j]?=O t->args[j]?=O v->Value.okWide prog W .any base t v:=b;have k:=s;obtain⟨p,q,d,hV,rfl,_,_⟩:=s;have r:DataW.TrodAll enc prog W 0 (λ_=>true) true f6.params.toList args.toList z p:=d;rw[params6]at r a;obtain⟨v0,v1,v2,d0,d1,d2,p0,p1,p2,rfl,rfl,rfl,h0,h1,h2⟩:=trodAll_three r;obtain⟨rfl,rfl⟩:=trodVars_none hV;obtain⟨s0,rfl,rfl,rfl,ac⟩:=open_string Ev (a 0 9 v0 rfl rfl) h0;obtain⟨i,n1,y,o,rfl,n,x⟩:=An2 (a 1 51 v1 rfl rfl) h1;obtain⟨x2,rfl,rfl,rfl,ad⟩:=open_int Ed (a 2 3 v2 rfl rfl) h2;clear d b;refine(A5f Aoc W (Agz m) s0 i n1 y o n x2).mono λe W' ⟨he,hw⟩=>?_;subst he;refine⟨_,rfl,Ag2 k rfl (λ_ _ _=>?_) rfl rfl hw ?_⟩
 .have l:f6.resultTypes=#[4]:=by kernel_rfl
  rw[l];exact trodAll_mk1 ⟨1,by simp[DataW.trod,Value.cells,Aad]⟩
 .rw [params6];intro t ht;have hm:t∈[9,51,3]:=by simpa using ht
  have f:([9,51,3].all λu=>prog.readableRec u && decide (u<prog.types.size))=true:=by kernel_rfl
  have:=Qv.1 f t hm;rw[Da]at this;exact⟨this.1,Kk this.2⟩
def A58:Rows.TableKeepsSaid:=
 OpenClaim.holds_of_wide 6 f6 rfl rfl rfl rfl rfl rfl rfl ⟨rfl,rfl,rfl,rfl,rfl⟩ rfl rfl rfl rfl rfl (by as_aux_lemma=>kernel_rfl) func6 A56
  (Kk (by as_aux_lemma=>kernel_rfl)) (by unfold Func.isWrapper;first|(rw[Ad (by decide +kernel)];kernel_rfl)|(rw[Ac (by decide +kernel)];exact⟨rfl,rfl⟩))
  (λos a H enc _=>A57 os a H enc)
theorem tableKeeps_holds:Rows.TableKeepsCardSaid:=
 Claim7.holds_tied_plain_at .later [] [.data,.pinned] true (true,"f00d3a3b54b311500f09fe0e11769c241cf9ea7bcfb4d4ab9fd4905181bcc704") false A58 (λ_ h=>by cases h) (by as_aux_lemma=>kernel_rfl) (λ_ h=>by cases h) tableKeeps_row_tie rfl ⟨rfl,rfl⟩ (by as_aux_lemma=>kernel_rfl) rfl
  (λf fn d b=>by
    obtain rfl:f=6:=Kn ((show prog.funcNamed "corvee/corveelaw14.TableKeeps"=O 6 by kernel_rfl).symm.trans d) |>.symm;obtain rfl:fn=f6:=(Kn (func6.symm.trans b)).symm
    exact⟨by kernel_rfl,λj t c=>by
    rw[params6]at c;have e:t∈[9,51,3]:=(by simpa using Array.mem_of_getElem? c);have a:([9,51,3].all λu=>!prog.wantsStandIn u)=true:=by kernel_rfl
    exact(show prog.wantsStandIn t=false by simpa using Qv.1 a t e)⟩)
  (by as_aux_lemma=>kernel_rfl)
