/- An event that is refused has changed nothing: for every input the law returns true, and each argument reads behind the call as it read before. The listed variables are laid and tied. No further condition. -/
import Derived.Test.YtimlcnhcjndijaaGreatDoorG38
import Derived.Test.YtimlcnhcjndijaaGreatDoorG39
set_option linter.all false
set_option maxRecDepth 100000
set_option maxHeartbeats 3200000
namespace Go.Proofs.YtimlcnhcjndijaaGreatDoor
open IntKind renaming i64->O
open Value renaming int->G,slice->J,string->Y
open Option renaming none->I,some->Z
open Go.Proofs.Tryz
section
open Go.ChangeShapes Go.WideShapes Go.ChangeAt Go.RowKit Go.ChangeMaps
def A4m (os:Os) (c:os.Started) (H:Type) (enc:TypeId×Value->H) :
  ReturnsInHanded {} Tryz.checked os 7 .any (λw args=>(Rows.tableRefusesSpec.pre enc prog f7 Rows.tableRefusesRow.domain false w args/\laidMetH prog Rows.tableRefusesRow.laid w)/\sizedMet enc prog f7 (OpenSpec.ofChange Rows.tableRefusesSpec) false w args)
   (Rows.tableRefusesSpec.post enc prog f7 false true false false):=by
 refine Aqh (C:=Tryz.checked) (X:=λw _=>laidMetH prog Rows.tableRefusesRow.laid w) (λ_ _ _ hh h=>h.of_heap hh) own c (by kernel_rfl) func7
  (ChangeSpec.witness_shaped (enc:=enc) (C:=Tryz.checked) (os:=os) (X:=λw _=>laidMetH prog Rows.tableRefusesRow.laid w) false (World.laidAll prog os Rows.tableRefusesRow.laid) #[Y ByteArray.empty,J I 0 0,.agg #[G O 0,G O 0,G O 0,G O 0,G O 0,G O 0,G O 0,G O 0,G O 0,J I 0 0]] 8 (World.laidAll_os _ _ _)
    (World.shaped_of_ZipB (by kernel_rfl) (by kernel_rfl)) (by kernel_rfl) (by kernel_rfl) (by kernel_rfl)
    (by rw[MakeChecks.laidMetH_plain _ _ _ (by kernel_rfl)];exact laidMet_laidAll _ (by kernel_rfl) (by kernel_rfl))) ?_
 intro W base args ds gs g b x hc hL m;have a:∀(j:Nat) t v,f7.params[j]?=Z t->args[j]?=Z v->Value.okWide prog W .any base t v:=b;have k:=x;obtain⟨p,q,d,hV,rfl,_,_⟩:=x;have s:DataW.TrodAll enc prog W 0 (λ_=>true) true f7.params.toList args.toList ds p:=d;rw[params7]at s a;obtain⟨v0,v1,v2,d0,d1,d2,p0,p1,p2,rfl,rfl,rfl,h0,h1,h2⟩:=trodAll_three s;obtain⟨rfl,rfl⟩:=trodVars_none hV;obtain⟨s0,rfl,rfl,rfl,ac⟩:=open_string Dr (a 0 9 v0 rfl rfl) h0;obtain⟨i,n1,z,r,rfl,n,y⟩:=A31 (a 1 51 v1 rfl rfl) h1;obtain⟨x2,rfl,o⟩:=A15 (a 2 40 v2 rfl rfl) h2;clear d b;refine(A21 A4l W (Aqg m) (A30 (λw=>MakeChecks.laidMetH_plain _ _ w (by kernel_rfl)) hL) s0 i n1 z r n x2 o).mono λe W' ⟨he,hw⟩=>?_;subst he;refine⟨_,rfl,Aqj k rfl (λ_ _ _=>?_) rfl rfl hw ?_⟩
 .have l:f7.resultTypes=#[4]:=by kernel_rfl
  rw[l];exact trodAll_mk1 ⟨1,by simp[DataW.trod,Value.cells,Aew]⟩
 .rw [params7];intro t ht;have hm:t∈[9,51,40]:=by simpa using ht
  have f:([9,51,40].all λu=>prog.readableRec u && decide (u<prog.types.size))=true:=by kernel_rfl
  have:=Wz.1 f t hm;rw[Eh]at this;exact⟨this.1,Io this.2⟩
def A4n:Rows.TableRefusesSaid:=
 OpenClaim.holds_of_wide 7 f7 rfl rfl rfl rfl rfl rfl rfl ⟨rfl,rfl,rfl,rfl,rfl⟩ rfl rfl rfl rfl rfl (by as_aux_lemma=>kernel_rfl) func7 A3y
  (Io (by as_aux_lemma=>kernel_rfl)) (by unfold Func.isWrapper;first|(rw[Ad (by decide +kernel)];kernel_rfl)|(rw[Ac (by decide +kernel)];exact⟨rfl,rfl⟩))
  (λos a H enc _=>A4m os a H enc)
theorem tableRefuses_holds:Rows.TableRefusesCardSaid:=
 Claim7.holds_tied_plain_at .later [] [.data,.data,.data,.data,.pinned] true (true,"f00d3a3b54b311500f09fe0e11769c241cf9ea7bcfb4d4ab9fd4905181bcc704") false A4n (λ_ h=>by cases h) (by as_aux_lemma=>kernel_rfl) (λ_ h=>by cases h) tableRefuses_row_tie rfl ⟨rfl,rfl⟩ (by as_aux_lemma=>kernel_rfl) rfl
  (λf fn d b=>by
    obtain rfl:f=7:=K5 ((show prog.funcNamed "corvee/corveelaw14.TableRefuses"=Z 7 by kernel_rfl).symm.trans d) |>.symm;obtain rfl:fn=f7:=(K5 (func7.symm.trans b)).symm
    exact⟨by kernel_rfl,λj t c=>by
    rw[params7]at c;have e:t∈[9,51,40]:=(by simpa using Array.mem_of_getElem? c);have a:([9,51,40].all λu=>!prog.wantsStandIn u)=true:=by kernel_rfl
    exact(show prog.wantsStandIn t=false by simpa using Wz.1 a t e)⟩)
  (by as_aux_lemma=>kernel_rfl)
