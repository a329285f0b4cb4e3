/- A table has room for so many jobs, and no more; what was taken stays: for every input the law returns true, and each argument reads behind the call as it read before. The listed variables are laid and tied. No further condition. -/
import Derived.Test.YtimlcnhcjndijaaGreatDoorH36
import Derived.Test.YtimlcnhcjndijaaGreatDoorH37
set_option linter.all false
set_option maxRecDepth 100000
set_option maxHeartbeats 3200000
namespace Go.Proofs.YtimlcnhcjndijaaGreatDoor
open IntKind renaming i64->G
open Value renaming int->Z
open Option renaming some->O
open Go.Proofs.Tryz
section
open Go.ChangeShapes Go.WideShapes Go.ChangeAt Go.RowKit Go.ChangeMaps
def A2b (os:Os) (c:os.Started) (H:Type) (enc:TypeId×Value->H) :
  ReturnsInHanded {} Tryz.checked os 8 .any (λw args=>(Rows.tableFullSpec.pre enc prog f8 Rows.tableFullRow.domain false w args/\laidMetH prog Rows.tableFullRow.laid w)/\sizedMet enc prog f8 (OpenSpec.ofChange Rows.tableFullSpec) false w args)
   (Rows.tableFullSpec.post enc prog f8 false true false false):=by
 refine Aov (C:=Tryz.checked) (X:=λw _=>laidMetH prog Rows.tableFullRow.laid w) (λ_ _ _ x h=>h.of_heap x) own c (by kernel_rfl) Tw
  (ChangeSpec.witness_shaped (enc:=enc) (C:=Tryz.checked) (os:=os) (X:=λw _=>laidMetH prog Rows.tableFullRow.laid w) false (World.laidAll prog os Rows.tableFullRow.laid) #[Z G 0,Z G 0] 8 (World.laidAll_os _ _ _)
    (World.shaped_of_ZipB (by kernel_rfl) (by kernel_rfl)) (by kernel_rfl) (by kernel_rfl) (by kernel_rfl)
    (by rw[MakeChecks.laidMetH_plain _ _ _ (by kernel_rfl)];exact laidMet_laidAll _ (by kernel_rfl) (by kernel_rfl))) ?_
 intro W base args o gs g b n hc r l;have a:∀(j:Nat) t v,f8.params[j]?=O t->args[j]?=O v->Value.okWide prog W .any base t v:=b;have i:=n;obtain⟨p,q,d,s,rfl,_,_⟩:=n;have m:DataW.TrodAll enc prog W 0 (λ_=>true) true f8.params.toList args.toList o p:=d;rw[params8]at m a;obtain⟨v0,v1,d0,d1,p0,p1,rfl,rfl,rfl,h0,h1⟩:=trodAll_two m;obtain⟨rfl,rfl⟩:=trodVars_none s;obtain⟨x0,rfl,rfl,rfl,ac⟩:=open_int Kr (a 0 3 v0 rfl rfl) h0;obtain⟨x1,rfl,rfl,rfl,ad⟩:=open_int Kr (a 1 3 v1 rfl rfl) h1;clear d b;refine(A1b A0i W (Aou l) (A2a (λw=>MakeChecks.laidMetH_plain _ _ w (by kernel_rfl)) r) x0 x1).mono λe W' ⟨he,hw⟩=>?_;subst he;refine⟨_,rfl,Aox i rfl (λ_ _ _=>?_) rfl rfl hw ?_⟩
 .have k:f8.resultTypes=#[4]:=by kernel_rfl
  rw[k];exact trodAll_mk1 ⟨1,by simp[DataW.trod,Value.cells,Al5]⟩
 .rw [params8];intro t z;have y:t∈[3,3]:=by simpa using z
  have f:([3,3].all λu=>prog.readableRec u && decide (u<prog.types.size))=true:=by kernel_rfl
  have:=Wd.1 f t y;rw[D7]at this;exact⟨this.1,G9 this.2⟩
def A2c:Rows.TableFullSaid:=
 OpenClaim.holds_of_wide 8 f8 rfl rfl rfl rfl rfl rfl rfl ⟨rfl,rfl,rfl,rfl,rfl⟩ rfl rfl rfl rfl rfl (by as_aux_lemma=>kernel_rfl) Tw A18
  (G9 (by as_aux_lemma=>kernel_rfl)) (by unfold Func.isWrapper;first|(rw[Ad (by decide +kernel)];kernel_rfl)|(rw[Ab (by decide +kernel)];exact⟨rfl,rfl⟩))
  (λos a H enc _=>A2b os a H enc)
theorem tableFull_holds:Rows.TableFullCardSaid:=
 Claim7.holds_tied_plain_at .later [] [.data,.data,.data,.data,.pinned] true (true,"f00d3a3b54b311500f09fe0e11769c241cf9ea7bcfb4d4ab9fd4905181bcc704") false A2c (λ_ h=>by cases h) (by as_aux_lemma=>kernel_rfl) (λ_ h=>by cases h) tableFull_row_tie rfl ⟨rfl,rfl⟩ (by as_aux_lemma=>kernel_rfl) rfl
  (λf fn d b=>by
    obtain rfl:f=8:=N4 ((show prog.funcNamed "corvee/corveelaw14.TableFull"=O 8 by kernel_rfl).symm.trans d) |>.symm;obtain rfl:fn=f8:=(N4 (func8.symm.trans b)).symm
    exact⟨by kernel_rfl,λj t c=>by
    rw[params8]at c;have e:t∈[3,3]:=(by simpa using Array.mem_of_getElem? c);have a:([3,3].all λu=>!prog.wantsStandIn u)=true:=by kernel_rfl
    exact(show prog.wantsStandIn t=false by simpa using Wd.1 a t e)⟩)
  (by as_aux_lemma=>kernel_rfl)
