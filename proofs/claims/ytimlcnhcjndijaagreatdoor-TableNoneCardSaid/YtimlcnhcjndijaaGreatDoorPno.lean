/- A table that is none has nothing, and takes nothing: for every input the law returns true, and each argument reads behind the call as it read before. The listed variables are laid and tied. No further condition. -/
import Derived.Test.YtimlcnhcjndijaaGreatDoorQ47
import Derived.Test.YtimlcnhcjndijaaGreatDoorQ48
set_option linter.all false
set_option maxRecDepth 100000
set_option maxHeartbeats 3200000
namespace Go.Proofs.YtimlcnhcjndijaaGreatDoor
open Go.ChangeShapes Go.WideShapes Go.ChangeAt Go.RowKit Go.ChangeMaps
def Az6 (os:Os) (a:os.Started) (H:Type) (enc:TypeId×Value->H) :
  ReturnsInHanded {} Tryz.checked os 11 .any (fun w args=>(Rows.tableNoneSpec.pre enc Tryz.prog Tryz.f11 Rows.tableNoneRow.domain false w args/\laidMetH Tryz.prog Rows.tableNoneRow.laid w)/\sizedMet enc Tryz.prog Tryz.f11 (OpenSpec.ofChange Rows.tableNoneSpec) false w args)
   (Rows.tableNoneSpec.post enc Tryz.prog Tryz.f11 false true false false):=by
 refine Ab7 (C:=Tryz.checked) (X:=fun w _=>laidMetH Tryz.prog Rows.tableNoneRow.laid w) (fun _ _ _ r h=>h.of_heap r) own a (by kernel_rfl) Tryz.func11
  (ChangeSpec.witness_shaped (enc:=enc) (C:=Tryz.checked) (os:=os) (X:=fun w _=>laidMetH Tryz.prog Rows.tableNoneRow.laid w) false (World.laidAll Tryz.prog os Rows.tableNoneRow.laid) #[.agg #[.int .i64 0,.int .i64 0,.int .i64 0,.int .i64 0,.int .i64 0,.int .i64 0,.int .i64 0,.int .i64 0,.int .i64 0,.slice none 0 0],.int .i64 0] 8 (World.laidAll_os _ _ _)
    (World.shaped_of_ZipB (by kernel_rfl) (by kernel_rfl)) (by kernel_rfl) (by kernel_rfl) (by kernel_rfl)
    (by rw [MakeChecks.laidMetH_plain _ _ _ (by kernel_rfl)];exact laidMet_laidAll _ (by kernel_rfl) (by kernel_rfl))) ?_
 intro W base args s gs g b n hc hL i;have c:∀ (j:Nat) t v,Tryz.f11.params[j]?=some t->args[j]?=some v->Value.okWide Tryz.prog W .any base t v:=b;have k:=n;obtain ⟨p,q,d,x,rfl,_,_⟩:=n;have o:DataW.TrodAll enc Tryz.prog W 0 (fun _=>true) true Tryz.f11.params.toList args.toList s p:=d;rw [Tryz.params11] at o c;obtain ⟨y,z,d0,d1,p0,p1,rfl,rfl,rfl,h0,h1⟩:=trodAll_two o;obtain ⟨rfl,rfl⟩:=trodVars_none x;obtain ⟨x0,rfl,l⟩:=Ayx (c 0 40 y rfl rfl) h0;obtain ⟨x1,rfl,rfl,rfl,ac⟩:=open_int Da (c 1 3 z rfl rfl) h1;clear d b;refine (Aze W (Ab6 i) x0 l x1).mono fun e W' ⟨he,hw⟩=>?_;subst he;refine ⟨_,rfl,Ab9 k rfl (fun _ _ _=>?_) rfl rfl hw ?_⟩
 .have m:Tryz.f11.resultTypes=#[4]:=by kernel_rfl
  rw [m];exact trodAll_mk1 ⟨1,by simp [DataW.trod,Value.cells,Xo]⟩
 .rw [Tryz.params11];intro t ht;have hm:t∈[40,3]:=by simpa using ht
  have f:([40,3].all fun u=>Tryz.prog.readableRec u && decide (u<Tryz.prog.types.size))=true:=by kernel_rfl
  have:=Re.1 f t hm;rw [Eo] at this;exact ⟨this.1,I9 this.2⟩
def Az7:Rows.TableNoneSaid:=
 OpenClaim.holds_of_wide 11 Tryz.f11 rfl rfl rfl rfl rfl rfl rfl ⟨rfl,rfl,rfl,rfl,rfl⟩ rfl rfl rfl rfl rfl (by as_aux_lemma=>kernel_rfl) Tryz.func11 Az5
  (I9 (by as_aux_lemma=>kernel_rfl)) (by unfold Func.isWrapper;first | (rw [Ad (by decide +kernel)];kernel_rfl) | (rw [Ac (by decide +kernel)];exact ⟨rfl,rfl⟩))
  (fun os a H enc _=>Az6 os a H enc)
theorem tableNone_holds:Rows.TableNoneCardSaid:=
 Claim7.holds_tied_plain_at .later [] [.data,.data,.data,.data,.pinned] true (true,"f00d3a3b54b311500f09fe0e11769c241cf9ea7bcfb4d4ab9fd4905181bcc704") false Az7 (fun _ h=>by cases h) (by as_aux_lemma=>kernel_rfl) (fun _ h=>by cases h) tableNone_row_tie rfl ⟨rfl,rfl⟩ (by as_aux_lemma=>kernel_rfl) rfl
  (fun f fn d b=>by
    obtain rfl:f=11:=J0 ((show Tryz.prog.funcNamed "corvee/corveelaw14.TableNone"=some 11 by kernel_rfl).symm.trans d) |>.symm;obtain rfl:fn=Tryz.f11:=(J0 (Tryz.func11.symm.trans b)).symm
    exact ⟨by kernel_rfl,fun j t c=>by
    rw [Tryz.params11] at c;have e:t∈[40,3]:=(by simpa using Array.mem_of_getElem? c);have a:([40,3].all fun u=>!Tryz.prog.wantsStandIn u)=true:=by kernel_rfl
    exact (show Tryz.prog.wantsStandIn t=false by simpa using Re.1 a t e)⟩)
  (by as_aux_lemma=>kernel_rfl)
end Go.Proofs.YtimlcnhcjndijaaGreatDoor
