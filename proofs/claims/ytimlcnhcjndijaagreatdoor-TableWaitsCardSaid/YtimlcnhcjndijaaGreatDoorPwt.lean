/- A job that waits begins behind the other one alone, and is doomed if that does not come to Done: for every input the law returns true, and each argument reads behind the call as it read before. The listed variables are laid and tied. No further condition. -/
import Derived.Test.YtimlcnhcjndijaaGreatDoorQ43
import Derived.Test.YtimlcnhcjndijaaGreatDoorQ44
set_option linter.all false
set_option maxRecDepth 100000
set_option maxHeartbeats 3200000
namespace Go.Proofs.YtimlcnhcjndijaaGreatDoor
open Go.ChangeShapes Go.WideShapes Go.ChangeAt Go.RowKit Go.ChangeMaps
def Ayl (os:Os) (b:os.Started) (H:Type) (enc:TypeId×Value->H) :
  ReturnsInHanded {} Tryz.checked os 3 .any (fun w args=>(Rows.tableWaitsSpec.pre enc Tryz.prog Tryz.f3 Rows.tableWaitsRow.domain false w args/\laidMetH Tryz.prog Rows.tableWaitsRow.laid w)/\sizedMet enc Tryz.prog Tryz.f3 (OpenSpec.ofChange Rows.tableWaitsSpec) false w args)
   (Rows.tableWaitsSpec.post enc Tryz.prog Tryz.f3 false true false false):=by
 refine Ab7 (C:=Tryz.checked) (X:=fun w _=>laidMetH Tryz.prog Rows.tableWaitsRow.laid w) (fun _ _ _ o h=>h.of_heap o) own b (by kernel_rfl) Nv
  (ChangeSpec.witness_shaped (enc:=enc) (C:=Tryz.checked) (os:=os) (X:=fun w _=>laidMetH Tryz.prog Rows.tableWaitsRow.laid w) false (World.laidAll Tryz.prog os Rows.tableWaitsRow.laid) #[.int .i64 0,.int .i64 0,.int .i64 0] 8 (World.laidAll_os _ _ _)
    (World.shaped_of_ZipB (by kernel_rfl) (by kernel_rfl)) (by kernel_rfl) (by kernel_rfl) (by kernel_rfl)
    (by rw [MakeChecks.laidMetH_plain _ _ _ (by kernel_rfl)];exact laidMet_laidAll _ (by kernel_rfl) (by kernel_rfl))) ?_
 intro W base args r gs g c m hc hL i;have a:∀ (j:Nat) t v,Tryz.f3.params[j]?=some t->args[j]?=some v->Value.okWide Tryz.prog W .any base t v:=c;have k:=m;obtain ⟨p,q,d,s,rfl,_,_⟩:=m;have n:DataW.TrodAll enc Tryz.prog W 0 (fun _=>true) true Tryz.f3.params.toList args.toList r p:=d;rw [Tryz.params3] at n a;obtain ⟨x,y,z,d0,d1,d2,p0,p1,p2,rfl,rfl,rfl,h0,h1,h2⟩:=trodAll_three n;obtain ⟨rfl,rfl⟩:=trodVars_none s;obtain ⟨x0,rfl,rfl,rfl,ac⟩:=open_int Da (a 0 3 x rfl rfl) h0;obtain ⟨x1,rfl,rfl,rfl,ad⟩:=open_int Da (a 1 3 y rfl rfl) h1;obtain ⟨x2,rfl,rfl,rfl,al⟩:=open_int Da (a 2 3 z rfl rfl) h2;clear d c;refine (Axt W (Ab6 i) x0 x1 x2).mono fun e W' ⟨he,hw⟩=>?_;subst he;refine ⟨_,rfl,Ab9 k rfl (fun _ _ _=>?_) rfl rfl hw ?_⟩
 .have l:Tryz.f3.resultTypes=#[4]:=by kernel_rfl
  rw [l];exact trodAll_mk1 ⟨1,by simp [DataW.trod,Value.cells,Xo]⟩
 .rw [Tryz.params3];intro t ht;have hm:t∈[3,3,3]:=by simpa using ht
  have f:([3,3,3].all fun u=>Tryz.prog.readableRec u && decide (u<Tryz.prog.types.size))=true:=by kernel_rfl
  have:=Re.1 f t hm;rw [Eo] at this;exact ⟨this.1,I9 this.2⟩
def Aym:Rows.TableWaitsSaid:=
 OpenClaim.holds_of_wide 3 Tryz.f3 rfl rfl rfl rfl rfl rfl rfl ⟨rfl,rfl,rfl,rfl,rfl⟩ rfl rfl rfl rfl rfl (by as_aux_lemma=>kernel_rfl) Nv Ayk
  (I9 (by as_aux_lemma=>kernel_rfl)) (by unfold Func.isWrapper;first | (rw [Ad (by decide +kernel)];kernel_rfl) | (rw [Ac (by decide +kernel)];exact ⟨rfl,rfl⟩))
  (fun os a H enc _=>Ayl os a H enc)
theorem tableWaits_holds:Rows.TableWaitsCardSaid:=
 Claim7.holds_tied_plain_at .later [] [.data,.pinned] true (true,"f00d3a3b54b311500f09fe0e11769c241cf9ea7bcfb4d4ab9fd4905181bcc704") false Aym (fun _ h=>by cases h) (by as_aux_lemma=>kernel_rfl) (fun _ h=>by cases h) tableWaits_row_tie rfl ⟨rfl,rfl⟩ (by as_aux_lemma=>kernel_rfl) rfl
  (fun f fn d b=>by
    obtain rfl:f=3:=J0 ((show Tryz.prog.funcNamed "corvee/corveelaw14.TableWaits"=some 3 by kernel_rfl).symm.trans d) |>.symm;obtain rfl:fn=Tryz.f3:=(J0 (Tryz.func3.symm.trans b)).symm
    exact ⟨by kernel_rfl,fun j t c=>by
    rw [Tryz.params3] at c;have e:t∈[3,3,3]:=(by simpa using Array.mem_of_getElem? c);have a:([3,3,3].all fun u=>!Tryz.prog.wantsStandIn u)=true:=by kernel_rfl
    exact (show Tryz.prog.wantsStandIn t=false by simpa using Re.1 a t e)⟩)
  (by as_aux_lemma=>kernel_rfl)
end Go.Proofs.YtimlcnhcjndijaaGreatDoor
