/- Parts Ww1, Ww2. Plain theorems: no condition. -/
import Derived.Test.YtimlcnhcjndijaaGreatDoorQ42
set_option linter.all false
set_option maxRecDepth 100000
set_option maxHeartbeats 12800000
namespace Go.Proofs.YtimlcnhcjndijaaGreatDoor
open Go.RowKit
def vg:ByteArray:=⟨#[110,49,32,52,44,50,44,48,44,48,32,109,97,105,110,10]⟩
def dh:ax:=⟨⟨#[110,49]⟩,⟨4,2,0,0⟩,[Mq]⟩
def Axa:Mz vg=([dh],0,0):=by kernel_rfl
def Bm (W R:Int) (after:List Int):dp:=⟨Dd,Mq,1,⟨1,0,0,0⟩,W,0,1,R,false,after⟩
structure G4 (W R:Int):Prop where
 w1:1<=W
 w2:W<=1000
 r1:0<=R
 r2:R<=5
variable {W R:Int} {k:Nat}
def Ur (h:G4 W R) {a:List Int} (b:Jh a=true):Di (Bm W R a)=true:=by
 have h1:C6 Dd=true:=by kernel_rfl
 have c:C6 Mq=true:=by kernel_rfl
 have d:P1 ⟨1,0,0,0⟩=true:=by kernel_rfl
 have e:=Ib.2 ⟨h.w1,h.w2⟩;have f:=Ib.2 ⟨h.r1,h.r2⟩;unfold Di Bm;simp only [h1,c,d,e,f,b,Bool.true_and,Bool.and_true];decide
def Aa3 (h:G4 W R) {a:List Int} (b:Jh a=true):C7 (Bm W R a) [dh]=0:=by
 unfold C7;rw [Ac (by rw [Ur h b];simp)];have h1:Ce [dh] Mq=[0]:=by kernel_rfl
 have c:M1 [dh] ⟨1,0,0,0⟩ [0]=1:=by kernel_rfl
 show (if Ce [dh] Mq=[] then 81 else if (M1 [dh] ⟨1,0,0,0⟩ (Ce [dh] Mq):Int)<1 then 82 else 0)=(0:Int);rw [h1,c];decide
def Axb (h:G4 W R) (a:List Int):K7 { Bm W R a with after:=[] }=⟨1,0,0,0⟩:=by
 show K7 (Bm W R [])=_;unfold K7;rw [Ad (show Di (Bm W R [])=true from Ur h (by kernel_rfl))];rfl
def Axc:E0 1 [1,1,1] [[],[-1],[-2]]=([[],[1],[2]],0):=by
 have h1:Ij (([[],[-1],[-2]]:List (List Int)).map (Jr 1 [1,1,1]))=true:=by kernel_rfl
 unfold E0;rw [Ac (by decide),Ac (by decide),Ac (by decide),Ac (by rw [h1];simp)];have a:(B9 1 [1,1,1] ([]:List Int) 0).2=[]:=by kernel_rfl
 have b:(B9 1 [1,1,1] ([-1]:List Int) 1).2=[1]:=by kernel_rfl
 have c:(B9 1 [1,1,1] ([-2]:List Int) 1).2=[2]:=by kernel_rfl
 have d:Lib.compact ([1]:List Int)=[1]:=by kernel_rfl
 have e:Lib.compact ([2]:List Int)=[2]:=by kernel_rfl
 have f:Fq 1 [1,1,1] []=[]:=by unfold Fq;show Lib.compact (Ez (B9 1 [1,1,1] ([]:List Int) 0).2)=[];rw [a];simp [Ez,Lib.compact,Lib.compactUpTo]
 have g:Fq 1 [1,1,1] [-1]=[1]:=by unfold Fq;show Lib.compact (Ez (B9 1 [1,1,1] ([-1]:List Int) 1).2)=[1];rw [b,show Ez [1]=[1] by simp [Ez,Ss],d]
 have h:Fq 1 [1,1,1] [-2]=[2]:=by unfold Fq;show Lib.compact (Ez (B9 1 [1,1,1] ([-2]:List Int) 1).2)=[2];rw [c,show Ez [2]=[2] by simp [Ez,Ss],e]
 simp [f,g,h]
def Aiq (h:G4 W R):B5 [dh] 0 [Bm W R [],Bm W R [-1],Bm W R [-2]]=([[],[1],[2]],0):=by
 have b:=Aa3 h (a:=[]) (by kernel_rfl);have c:=Aa3 h (a:=[-1]) (by kernel_rfl);have d:=Aa3 h (a:=[-2]) (by kernel_rfl);have e:[Bm W R [],Bm W R [-1],Bm W R [-2]].find? (fun s=>decide (C7 s [dh]≠0))=none:=by simp [b,c,d]
 unfold B5;rw [e];show (if 100<((0:Nat):Int)+Ie [Bm W R [],Bm W R [-1],Bm W R [-2]] then (([],140):List (List Int)×Int) else E0 1 [1,1,1] [[],[-1],[-2]])=_;rw [Ac (by show ¬ (100:Int)<3;decide),Axc]
def Sq:List (Int×Cl):=[(3,⟨9,0,1,3⟩)]
def Pi:List Er:=[⟨true,false,0⟩]
def Kr (W R:Int) (st bm left start:Int) (aj:List Int) (parts:List (Int×Int)):Jb:=⟨1,Bm W R [],⟨st,bm,left,false,false⟩,start,aj,parts⟩
def il (W R:Int) (id st bm start:Int) (aj:List Int) (parts:List (Int×Int)):Jb:=⟨id,Bm W R [id-1],⟨st,bm,R,false,false⟩,start,aj,parts⟩
def xd:di:=⟨0,-1,[],[⟨false,false,-1⟩],[]⟩
def qu:di:=⟨0,-1,[],Pi,[]⟩
def im (W R:Int) (k:Nat):di:=⟨0,if k=0 then -1 else k,Sq,Pi,[Kr W R 1 k (R-k) (-1) [] [],il W R 2 1 0 (-1) [] [],il W R 3 1 0 (-1) [] []]⟩
def qb (W R:Int) (k:Nat):di:=⟨0,1+k,Sq,Pi,[Kr W R 3 (k+1) (R-k) (1+k) [0] [(0,0)],il W R 2 1 0 (-1) [] [],il W R 3 1 0 (-1) [] []]⟩
def od (W R:Int):di:=⟨0,1,Sq,Pi,[Kr W R 5 1 R 1 [0] [],il W R 2 1 0 (-1) [] [],il W R 3 1 0 (-1) [] []]⟩
def nz (W R:Int):di:=⟨0,1,Sq,Pi,[Kr W R 6 1 R 1 [0] [],il W R 2 8 0 (-1) [] [],il W R 3 8 0 (-1) [] []]⟩
def kz (W R:Int):di:=⟨0,1+R,Sq,Pi,[Kr W R 7 (R+1) 0 (1+R) [0] [],il W R 2 8 0 (-1) [] [],il W R 3 8 0 (-1) [] []]⟩
def Aa4 (W R:Int):di:=⟨0,100,Sq,Pi,[Kr W R 5 1 R 1 [0] [],il W R 2 3 1 100 [0] [(0,0)],il W R 3 1 0 (-1) [] []]⟩
def di.jh (t:di):di:={ t with tick:=100 }
def Axd:Cz [dh] xd Aii=(qu,⟨0,0,0,0⟩,0):=by kernel_rfl
def Q0 (W R:Int):ed:=⟨⟨2,0,0,3,9,0,0,0,0⟩,[Bm W R [],Bm W R [-1],Bm W R [-2]]⟩
def Jv (h:G4 W R):R=0\/R=1\/R=2\/R=3\/R=4\/R=5:=by
 have:=h.r1;have:=h.r2;omega
def Axe (h:G4 W R):E6 (Q0 W R)=true:=by
 have b:Dj (Q0 W R).n.kind=some [Cu,Cv]:=by kernel_rfl
 rw [Yv b (e':=⟨2,0,0,0,0,0,0,0,0⟩) (by kernel_rfl)];have c:=Ur h (a:=[]) (by kernel_rfl);have d:=Ur h (a:=[-1]) (by kernel_rfl);have e:=Ur h (a:=[-2]) (by kernel_rfl);simp [Q0,c,d,e,Rx,Kd]
def Axf (h:G4 W R):Cz [dh] qu (Q0 W R)=(im W R 0,⟨0,0,1,3⟩,0):=by
 have h0:Dl [dh] qu (Q0 W R)=(B5 [dh] 0 [Bm W R [],Bm W R [-1],Bm W R [-2]]).2:=by
  unfold Dl;rw [Ac (by rw [Axe h];simp)]
  kernel_rfl
 have h1:Dl [dh] qu (Q0 W R)=0:=by rw [h0,Aiq h]
 have a:Js [dh] qu [Bm W R [],Bm W R [-1],Bm W R [-2]]=(⟨0,-1,[],Pi,(im W R 0).ab⟩,⟨0,0,1,3⟩):=by
  unfold Js;rw [show B5 [dh] qu.ab.length [Bm W R [],Bm W R [-1],Bm W R [-2]]=([[],[1],[2]],0) from Aiq h]
  rcases Jv h with rfl | rfl | rfl | rfl | rfl | rfl<;>kernel_rfl
 have b:dz [dh] qu (Q0 W R)=Js [dh] qu [Bm W R [],Bm W R [-1],Bm W R [-2]]:=by kernel_rfl
 unfold Cz;rw [Ac (by rw [h1];simp),b,a];rfl
def Air {vs:List ax} {js:List Jb} (h:Dk vs js=[]) (b:Int) (c:List Bool):Gj vs b c js=[]:=by
 unfold Gj;rw [h];rcases Ahi (vs.map ax.cap) b c ((E7 js).map Li) [] with e | ⟨a,d,e⟩
 .exact e
 .rw [e];have:=(Pl.Zw d).len;have f:=Fw.1 (by simpa using this);rw [f];rfl
def Axg (a:Int):Jm ⟨4,2,0,0⟩ [] [⟨a,Dd,0,⟨1,0,0,0⟩⟩]=[0]:=by
 have h1:B6 [⟨a,Dd,0,⟨1,0,0,0⟩⟩] 1=[⟨Dd,V4.zero,[0]⟩]:=by kernel_rfl
 have b:Cq [] [⟨a,Dd,0,⟨1,0,0,0⟩⟩]=[⟨Dd,V4.zero,[0]⟩]:=by unfold Cq;show (([]:List dy).foldl Co (B6 [⟨a,Dd,0,⟨1,0,0,0⟩⟩] 1)).map _=_;rw [h1];simp [F3,Ss]
 have c:Et [⟨Dd,V4.zero,[0]⟩]=[Dd]:=by unfold Et;simp [Ss,Dd]
 unfold Jm;rw [b,c];rfl
def Ais (h:G4 W R) {js:List Jb} {j:Jb} {e d:Int} (f:Mo [dh] e [true] js) (n:E7 js=[]) (s:C8 js=[]) (o:Bi js=[⟨d,Dd,0,K7 (Bm W R [])⟩]) (t:Ew js d=j)
  (g:j.id=d) (b:∃ a,j.sp=Bm W R a) (i:j.start=-1) (k:0<=e/\e<=1000):Gj [dh] e [true] js=[(d,e,[0])]:=by
 have u:K7 (Bm W R [])=⟨1,0,0,0⟩:=Axb h [];rw [u] at o;have p:Dk [dh] js=[Ej [dh] j]:=by unfold Dk;rw [o,s,show Dv [dh] ByteArray.empty=⟨4,2,0,0⟩ by kernel_rfl,Axg];show [Ej [dh] (Ew js d)]=_;rw [t]
 obtain ⟨a,b⟩:=b
 have x:Pl.Qy (Ej [dh] j) ⟨1,0,0,0⟩ (W+8):=by
  refine ⟨?_,?_,?_,?_,i⟩
  .show Ce [dh] j.sp.part=[0];rw [b];show Ce [dh] Mq=[0]
   kernel_rfl
  .show j.sp.nodes=1;rw [b];rfl
  .show j.sp.dn=_;rw [b];rfl
  .show j.sp.wall+8=_;rw [b];rfl
 have w1:=h.w1;have w2:=h.w2;unfold Mo at f;unfold Gj;rw [n,p] at f;rw [n,p];rcases f with ⟨r,h1,y⟩ | ⟨l,q⟩
 .exact absurd (Pl.Aig y (by decide) k.1 (by omega)) h1
 .have z:=Pl.Awt (c:=⟨4,2,0,0⟩) (v:=⟨1,0,0,0⟩) q x (by omega) (by decide) (by simp [V4.leq]) (by omega);have m:=Zy q;rw [z] at m;rw [show (Ej [dh] j).id=d from g] at m;exact m
def Ga (tk:Int):ed:=⟨⟨6,0,tk,0,0,0,0,0,0⟩,[]⟩
def Us (bm bj:Int):ed:=⟨⟨7,0,0,0,0,1,bm,0,bj⟩,[]⟩
def Xm {t t':di} {a:Int} {c:List Bool} {js:List Jb} {L:List (Int×Int×List Int)} (b:Mp [dh] t (Ga a)) (d:Dl [dh] t (Ga a)=0) (e:Cc a t.ab=js) (f:nf { t with tick:=a }=c) (h:Mo [dh] a c js->Gj [dh] a c js=L) (i:t'={ t with tick:=a,ab:=Gh a L (js.map F4) }) :
  Cz [dh] t (Ga a)=(t',⟨0,0,0,0⟩,0):=by
 have g:Mo [dh] a (nf { t with tick:=a }) (Cc a t.ab):=b d rfl;rw [e,f] at g;have j:dz [dh] t (Ga a)=(Od [dh] t a,⟨0,0,0,0⟩):=by unfold dz;rw [Ac (show ¬ (Ga a).n.kind=1 by show ¬ (6:Int)=1;decide),Ac (show ¬ (Ga a).n.kind=2 by show ¬ (6:Int)=2;decide),Ad (show (Ga a).n.kind=6 from rfl)];rfl
 have k:Od [dh] t a=t':=by unfold Od O5;rw [e,f,h g,i]
 unfold Cz;rw [Ac (by rw [d];simp),j,k];rfl
def Aa5 (h:G4 W R) (n:(k:Int)<=R) (b:Mp [dh] (im W R k) (Ga (1+k))):Cz [dh] (im W R k) (Ga (1+k))=(qb W R k,⟨0,0,0,0⟩,0):=by
 have a:k=0\/k=1\/k=2\/k=3\/k=4\/k=5:=by have:=h.r2;omega
 have c:Dl [dh] (im W R k) (Ga (1+k))=0:=by rcases Jv h with rfl | rfl | rfl | rfl | rfl | rfl<;>rcases a with rfl | rfl | rfl | rfl | rfl | rfl<;>first | (exfalso;omega) | (show _=_;kernel_rfl)
 have d:Cc (1+(k:Int)) (im W R k).ab=(im W R k).ab:=by rcases Jv h with rfl | rfl | rfl | rfl | rfl | rfl<;>rcases a with rfl | rfl | rfl | rfl | rfl | rfl<;>first | (exfalso;omega) | (show _=_;kernel_rfl)
 have e:nf { im W R k with tick:=1+(k:Int) }=[true]:=by rcases Jv h with rfl | rfl | rfl | rfl | rfl | rfl<;>rcases a with rfl | rfl | rfl | rfl | rfl | rfl<;>first | (exfalso;omega) | (show _=_;kernel_rfl)
 have f:E7 (im W R k).ab=[]:=by rcases Jv h with rfl | rfl | rfl | rfl | rfl | rfl<;>rcases a with rfl | rfl | rfl | rfl | rfl | rfl<;>first | (exfalso;omega) | (show _=_;kernel_rfl)
 have g:C8 (im W R k).ab=[]:=by rcases Jv h with rfl | rfl | rfl | rfl | rfl | rfl<;>rcases a with rfl | rfl | rfl | rfl | rfl | rfl<;>first | (exfalso;omega) | (show _=_;kernel_rfl)
 have i:Bi (im W R k).ab=[⟨1,Dd,0,K7 (Bm W R [])⟩]:=by rcases Jv h with rfl | rfl | rfl | rfl | rfl | rfl<;>rcases a with rfl | rfl | rfl | rfl | rfl | rfl<;>first | (exfalso;omega) | (show _=_;kernel_rfl)
 have l:qb W R k={ im W R k with tick:=1+(k:Int),ab:=Gh (1+(k:Int)) [(1,1+(k:Int),[0])] ((im W R k).ab.map F4) }:=by rcases Jv h with rfl | rfl | rfl | rfl | rfl | rfl<;>rcases a with rfl | rfl | rfl | rfl | rfl | rfl<;>first | (exfalso;omega) | (show _=_;kernel_rfl)
 refine Xm b c d e (fun m=>?_) l;have:=h.r2;exact Ais h m f g i (j:=Kr W R 1 k (R-k) (-1) [] []) rfl rfl ⟨[],rfl⟩ rfl (by omega)
def Axh (h:G4 W R):Cz [dh] (qb W R 0) (Us 1 1)=(od W R,⟨0,0,0,0⟩,0):=by
 rcases Jv h with rfl | rfl | rfl | rfl | rfl | rfl<;>kernel_rfl
def Axi (h:G4 W R):Cz [dh] (qb W R 0) (Us 1 2)=(nz W R,⟨0,0,0,0⟩,0):=by
 rcases Jv h with rfl | rfl | rfl | rfl | rfl | rfl<;>kernel_rfl
def Axj (h:G4 W R) (b:(k:Int)<R):Cz [dh] (qb W R k) (Us (k+1) 3)=(im W R (k+1),⟨0,0,0,0⟩,0):=by
 have a:k=0\/k=1\/k=2\/k=3\/k=4\/k=5:=by have:=h.r2;omega
 rcases Jv h with rfl | rfl | rfl | rfl | rfl | rfl<;>rcases a with rfl | rfl | rfl | rfl | rfl | rfl<;>first | (exfalso;omega) | (show _=_;kernel_rfl)
def Axk (h:G4 W R) (b:(k:Int)=R):Cz [dh] (qb W R k) (Us (k+1) 3)=(kz W R,⟨0,0,0,0⟩,0):=by
 have a:k=0\/k=1\/k=2\/k=3\/k=4\/k=5:=by have:=h.r2;omega
 rcases Jv h with rfl | rfl | rfl | rfl | rfl | rfl<;>rcases a with rfl | rfl | rfl | rfl | rfl | rfl<;>first | (exfalso;omega) | (show _=_;kernel_rfl)
def Axl (h:G4 W R) (a:(k:Int)<=R):Cz [dh] (qb W R k) (Us (k+1) 3)=(if (k:Int)+1<=R then im W R (k+1) else kz W R,⟨0,0,0,0⟩,0):=by
 by_cases c:(k:Int)+1<=R
 .rw [Ad c];exact Axj h (by omega)
 .rw [Ac c];exact Axk h (by omega)
def Axm:P3 (nz W R).jh.ab 0=⟨0,0,0,0⟩:=by kernel_rfl
def Axn:P3 (kz W R).jh.ab 0=⟨0,0,0,0⟩:=by kernel_rfl
def Axo (h:G4 W R) (a:Mp [dh] (od W R) (Ga 100)):Cz [dh] (od W R) (Ga 100)=(Aa4 W R,⟨0,0,0,0⟩,0):=by
 have b:Dl [dh] (od W R) (Ga 100)=0:=by kernel_rfl
 have c:Cc 100 (od W R).ab=(od W R).ab:=by kernel_rfl
 have d:nf { od W R with tick:=100 }=[true]:=by kernel_rfl
 have e:E7 (od W R).ab=[]:=by kernel_rfl
 have f:C8 (od W R).ab=[]:=by kernel_rfl
 have g:Bi (od W R).ab=[⟨2,Dd,0,K7 (Bm W R [])⟩]:=by kernel_rfl
 have i:Aa4 W R={ od W R with tick:=100,ab:=Gh 100 [(2,100,[0])] ((od W R).ab.map F4) }:=by rcases Jv h with rfl | rfl | rfl | rfl | rfl | rfl<;>kernel_rfl
 exact Xm a b c d (fun k=>Ais h k e f g (j:=il W R 2 1 0 (-1) [] []) rfl rfl ⟨[1],rfl⟩ rfl (by decide)) i
def Axp (a:Mp [dh] (nz W R) (Ga 100)):Cz [dh] (nz W R) (Ga 100)=((nz W R).jh,⟨0,0,0,0⟩,0):=by
 have b:Dl [dh] (nz W R) (Ga 100)=0:=by kernel_rfl
 have c:Cc 100 (nz W R).ab=(nz W R).ab:=by kernel_rfl
 have d:nf { nz W R with tick:=100 }=[true]:=by kernel_rfl
 have e:Dk [dh] (nz W R).ab=[]:=by unfold Dk;rw [show Bi (nz W R).ab=[] by kernel_rfl];rfl
 exact Xm a b c d (fun _=>Air e _ _) rfl
def Axq (h:G4 W R) (a:Mp [dh] (kz W R) (Ga 100)):Cz [dh] (kz W R) (Ga 100)=((kz W R).jh,⟨0,0,0,0⟩,0):=by
 have b:Dl [dh] (kz W R) (Ga 100)=0:=by rcases Jv h with rfl | rfl | rfl | rfl | rfl | rfl<;>kernel_rfl
 have c:Cc 100 (kz W R).ab=(kz W R).ab:=by kernel_rfl
 have d:nf { kz W R with tick:=100 }=[true]:=by kernel_rfl
 have e:Dk [dh] (kz W R).ab=[]:=by unfold Dk;rw [show Bi (kz W R).ab=[] by kernel_rfl];rfl
 exact Xm a b c d (fun _=>Air e _ _) rfl
end Go.Proofs.YtimlcnhcjndijaaGreatDoor
namespace Go.Proofs.YtimlcnhcjndijaaGreatDoor
open Go.RowKit Go.Maps Go.Lib
def Axr:Ir [dh]:=by
 have h:=Abz (Gv vg) [] Yj;have e:(Bo [] (Gv vg)).1=[dh]:=by kernel_rfl
 rw [e] at h;exact h
def Axs (w:World) (c:Mx w):Calls Tryz.prog 13 #[.string ⟨#[110,49,32,52,44,50,44,48,44,48,32,109,97,105,110,10]⟩] w fun e w'=>e=.returned (.tuple #[.pointer (some ⟨w.heap.size+4,0,none⟩),.int .i64 0,.int .i64 0])/\Below w.heap.size w w'/\ir w' (w.heap.size+4) (w.heap.size+3) (w.heap.size+7) [dh]:=
 (Ye vg w c).mono fun e w' h=>by
  obtain ⟨p,a,d,b⟩:=h;rw [Axa] at a b;rcases b with ⟨h1,_⟩ | ⟨_,rfl,f⟩
  .exact absurd rfl h1
  .exact ⟨a,d,f⟩
def Ait {w:World} {T:Tv} (h:An w T) {b:Nat} {z:Int} (e:w.heap[b]?=some (.cells #[.int .i64 z] 3 (0,0))):∀ d,Mod T.ay w d->Ap d (some ⟨b,0,none⟩) 1 [z]:=fun d f=>by
 have a:=f.aq e (h.off e (by decide) (by decide) (by decide) (by decide) (by decide));refine ⟨rfl,by omega,fun i x c=>?_⟩
 match i,c with
 | 0,c=>
  injection c with c;exact ⟨b,0,rfl,Ab a,by rw [<- c];exact Aa a 0⟩
def Axt (w:World) (hm:Mx w) (bj R W:Int):Calls Tryz.prog 3 #[.int .i64 bj,.int .i64 R,.int .i64 W] w fun e w'=>e=.returned (.bool true)/\Below w.heap.size w w':=by
 have bF:=Aip w hm;have ch:=fun W0 (h:Below w.heap.size w W0)=>Axs W0 (hm.low h);have ci:=Axr;replace ⟨bF,ch,ci⟩:=H3 bF ch ci;by_cases bf:(1<=bj/\bj<=3)/\(0<=R/\R<=5)/\1<=W/\W<=1000;rotate_left
 .clear ch ci;by_cases a1:bj<1
  .have d1:=Az a1;replace bf:=Hh bf;go_enter Nv,Pw;go_wp2_with fail;refine bF.out.mono ?_;rintro e wa ⟨rfl,p⟩;replace p:=Hh p;go_wp2_with fail;go_ret;exact ⟨rfl,p.out⟩
  have d1:decide (bj<1)=false:=Aw a1;by_cases a2:3<bj
  .have d2:=Az a2;replace bf:=Hh bf;go_enter Nv,Pw;go_wp2_with fail;refine bF.out.mono ?_;rintro e wa ⟨rfl,p⟩;replace p:=Hh p;go_wp2_with fail;go_ret;exact ⟨rfl,p.out⟩
  have d2:decide (3<bj)=false:=Aw a2;by_cases a3:R<0
  .have d3:=Az a3;replace bf:=Hh bf;go_enter Nv,Pw;go_wp2_with fail;refine bF.out.mono ?_;rintro e wa ⟨rfl,p⟩;replace p:=Hh p;go_wp2_with fail;go_ret;exact ⟨rfl,p.out⟩
  have d3:decide (R<0)=false:=Aw a3;by_cases a4:5<R
  .have d4:=Az a4;replace bf:=Hh bf;go_enter Nv,Pw;go_wp2_with fail;refine bF.out.mono ?_;rintro e wa ⟨rfl,p⟩;replace p:=Hh p;go_wp2_with fail;go_ret;exact ⟨rfl,p.out⟩
  have d4:decide (5<R)=false:=Aw a4;by_cases a5:W<1
  .have d5:=Az a5;replace bf:=Hh bf;go_enter Nv,Pw;go_wp2_with fail;refine bF.out.mono ?_;rintro e wa ⟨rfl,p⟩;replace p:=Hh p;go_wp2_with fail;go_ret;exact ⟨rfl,p.out⟩
  have d5:decide (W<1)=false:=Aw a5;have a6:1000<W:=by omega
  have d6:=Az a6;replace bf:=Hh bf;go_enter Nv,Pw;go_wp2_with fail;refine bF.out.mono ?_;rintro e wa ⟨rfl,p⟩;replace p:=Hh p;go_wp2_with fail;go_ret;exact ⟨rfl,p.out⟩
 obtain ⟨⟨h1,h2⟩,⟨h3,h4⟩,h5,h6⟩:=bf;have bl:G4 W R:=⟨h5,h6,h3,h4⟩;have d1:decide (bj<1)=false:=Aw (by omega);have d2:decide (3<bj)=false:=Aw (by omega);have d3:decide (R<0)=false:=Aw (by omega);have d4:decide (5<R)=false:=Aw (by omega);have d5:decide (W<1)=false:=Aw (by omega);have d6:decide (1000<W)=false:=Aw (by omega);replace bl:=Hh bl;go_enter Nv,Pw;go_wp2_with fail;refine bF.out.mono ?_;rintro e wa ⟨rfl,p⟩;have bV:=ch.out wa p;replace ⟨p,bV⟩:=H2 p bV;go_wp2_with fail;refine bV.out.mono ?_;rintro e w1 ⟨rfl,cD,cr⟩;have cs:=Aib cr ci.out;replace ⟨cD,cr,cs⟩:=H3 cD cr cs;go_wp2_with fail;refine cs.out.mono ?_;rintro e w2 ⟨T,rfl,ct,cj,ca,db,dc,dd,cE,cF⟩;obtain ⟨tb,ht⟩:=Ex (T.tb);rw [<- ht];replace ca:T.pl=xd:=ca;clear db dc dd;replace ⟨ct,cj,ca,cE,cF,ht⟩:=H6 ct cj ca cE cF ht;go_upto_region 13 with fail;obtain ⟨W3,bL⟩:=Ex (((((w2.alloc (.cells #[.string ⟨#[97,110,97]⟩,.string ⟨#[109,97,105,110]⟩,.int .i64 1,.int .i64 1,.int .i64 0,.int .i64 0,.int .i64 0,.int .i64 W,.int .i64 0,.int .i64 1,.int .i64 R,.bool false,.slice none 0 0] 33 (0,0))).alloc (.cells #[.string ⟨#[97,110,97]⟩,.string ⟨#[109,97,105,110]⟩,.int .i64 1,.int .i64 1,.int .i64 0,.int .i64 0,.int .i64 0,.int .i64 W,.int .i64 0,.int .i64 1,.int .i64 R,.bool false,.slice (some ⟨w2.heap.size+1+1,0,none⟩) 1 1] 33 (0,0))).alloc (.cells #[.int .i64 (-1)] 3 (0,0))).alloc (.cells #[.string ⟨#[97,110,97]⟩,.string ⟨#[109,97,105,110]⟩,.int .i64 1,.int .i64 1,.int .i64 0,.int .i64 0,.int .i64 0,.int .i64 W,.int .i64 0,.int .i64 1,.int .i64 R,.bool false,.slice (some ⟨w2.heap.size+1+1+1+1,0,none⟩) 1 1] 33 (0,0))).alloc (.cells #[.int .i64 (-2)] 3 (0,0)));have cv:Below w2.heap.size w2 W3:=by rw [bL];exact (((Bn.alloc (by simp) _).alloc (by simp;omega) _).alloc (by simp;omega) _).alloc (by simp;omega) _
 have cb:W3.heap[w2.heap.size]?=some (.cells (⟨Bm W R [],none,0,0⟩:au).cells 33 (0,0)):=by rw [bL];exact Ai _ (Ai _ (Ai _ (Ai _ (Af _ _))))
 have bR:W3.heap[w2.heap.size+1]?=some (.cells (⟨Bm W R [-1],some ⟨w2.heap.size+1+1,0,none⟩,1,1⟩:au).cells 33 (0,0)):=by rw [bL];exact Ai _ (Ai _ (Ai _ (A2 _ _ (by simp))))
 have cc:W3.heap[w2.heap.size+1+1]?=some (.cells #[.int .i64 (-1)] 3 (0,0)):=by rw [bL];exact Ai _ (Ai _ (A2 _ _ (by simp)))
 have bS:W3.heap[w2.heap.size+1+1+1]?=some (.cells (⟨Bm W R [-2],some ⟨w2.heap.size+1+1+1+1,0,none⟩,1,1⟩:au).cells 33 (0,0)):=by rw [bL];exact Ai _ (A2 _ _ (by simp))
 have cd:W3.heap[w2.heap.size+1+1+1+1]?=some (.cells #[.int .i64 (-2)] 3 (0,0)):=by rw [bL];exact A2 _ _ (by simp)
 rw [<- bL];obtain ⟨s0,cG⟩:=Ex (w2.heap.size);obtain ⟨s1,cH⟩:=Ex (w2.heap.size+1);obtain ⟨i1,cL⟩:=Ex (w2.heap.size+1+1);obtain ⟨s2,cI⟩:=Ex (w2.heap.size+1+1+1);obtain ⟨i2,cM⟩:=Ex (w2.heap.size+1+1+1+1);rw [<- cM] at cd bS;rw [<- cI] at bS;rw [<- cL] at cc bR;rw [<- cH] at bR;rw [<- cG] at cb;rw [<- cI,<- cH,<- cG];clear bL cG cH cL cI cM;have bH:=ct.out.drop cv;have bI:∀ a so sn sc,(⟨Bm W R a,so,sn,sc⟩:au).pl.user.size<=maxLen/\(⟨Bm W R a,so,sn,sc⟩:au).pl.part.size<=maxLen:=fun _ _ _ _=>⟨by show Dd.size<=maxLen;decide,by show Mq.size<=maxLen;decide⟩;have s:=I6 ⟨⟨9,0,0,0,0,0,0,0,0⟩,none,0,0,[]⟩ bH (Kp _ _ (fun i=>by unfold bz.get;split<;>simp)) (fun W' _=>Kq W') (fun c=>absurd c (by decide)) (t':=qu) (c:=⟨0,0,0,0⟩) (r:=0) (by rw [cj.out,ca.out];exact fun _=>Axd);rw [<- ht.out] at s;replace ⟨cv,cb,bR,cc,bS,cd,bH,s⟩:=H8 cv cb bR cc bS cd bH s;replace bI:=Hh bI;go_wp2_with fail;refine s.out.mono ?_;rintro e w4 ⟨T4,rfl,cw,bW,bM⟩;have bX:=bM.mod.aq cb.out (bH.out.tab.off cb.out (by decide) (by decide) (by decide) (by decide) (by decide));have bY:=bM.mod.aq bR.out (bH.out.tab.off bR.out (by decide) (by decide) (by decide) (by decide) (by decide));have bZ:=bM.mod.aq bS.out (bH.out.tab.off bS.out (by decide) (by decide) (by decide) (by decide) (by decide));have bN:=bM.mod.aq cc.out (bH.out.tab.off cc.out (by decide) (by decide) (by decide) (by decide) (by decide));have bO:=bM.mod.aq cd.out (bH.out.tab.off cd.out (by decide) (by decide) (by decide) (by decide) (by decide));have ck:=bM.vs.trans cj.out;have cl:tb=T4.tb:=by rw [bM.tb];exact ht.out
 clear bM cb bR bS cc cd;obtain ⟨a0,a1,a2,a3,a4,a5,a6,a7,a8,a9,cN,cO,cP⟩:=C13 bX;(try dsimp only at a0 a1 a2 a3 a4 a5 a6 a7 a8 a9 cN cO cP);obtain ⟨b0,b1,b2,b3,b4,b5,b6,b7,b8,b9,cQ,cR,cS⟩:=C13 bY;(try dsimp only at b0 b1 b2 b3 b4 b5 b6 b7 b8 b9 cQ cR cS);obtain ⟨c0,c1,c2,c3,c4,c5,c6,c7,c8,c9,cT,cU,cV⟩:=C13 bZ;(try dsimp only at c0 c1 c2 c3 c4 c5 c6 c7 c8 c9 cT cU cV);obtain ⟨WA,cx⟩:=Ex (w4.alloc (.cells #[.string ⟨#[97,110,97]⟩,.string ⟨#[109,97,105,110]⟩,.int .i64 1,.int .i64 1,.int .i64 0,.int .i64 0,.int .i64 0,.int .i64 W,.int .i64 0,.int .i64 1,.int .i64 R,.bool false,.slice none 0 0,.string ⟨#[97,110,97]⟩,.string ⟨#[109,97,105,110]⟩,.int .i64 1,.int .i64 1,.int .i64 0,.int .i64 0,.int .i64 0,.int .i64 W,.int .i64 0,.int .i64 1,.int .i64 R,.bool false,.slice (some ⟨i1,0,none⟩) 1 1,.string ⟨#[97,110,97]⟩,.string ⟨#[109,97,105,110]⟩,.int .i64 1,.int .i64 1,.int .i64 0,.int .i64 0,.int .i64 0,.int .i64 W,.int .i64 0,.int .i64 1,.int .i64 R,.bool false,.slice (some ⟨i2,0,none⟩) 1 1] 33 (0,0)));have ce:Below w4.heap.size w4 WA:=by rw [cx];exact Bn
 have cy:WA.heap[w4.heap.size]?=some (.cells (Ar au.cells [(⟨Bm W R [],none,0,0⟩:au),⟨Bm W R [-1],some ⟨i1,0,none⟩,1,1⟩,⟨Bm W R [-2],some ⟨i2,0,none⟩,1,1⟩]).toArray 33 (0,0)):=by rw [cx];exact Af _ _
 have bT:=cw.drop ce;have cW:=Ait bT.tab (Ae ce bN (Ab bN));have cX:=Ait bT.tab (Ae ce bO (Ab bO))
 have bP:=Aio bT.tab cy (by simp) (fun W' hm x hx=>by
  simp only [Gu,List.not_mem_nil,or_false] at hx;rcases hx with rfl | rfl | rfl
  .exact ⟨Tg W',Nat.le_refl _,(bI.out [] none 0 0).1,(bI.out [] none 0 0).2⟩
  .exact ⟨cW W' hm,Nat.le_refl _,(bI.out [] none 0 0).1,(bI.out [] none 0 0).2⟩
  .exact ⟨cX W' hm,Nat.le_refl _,(bI.out [] none 0 0).1,(bI.out [] none 0 0).2⟩)
 have s:=I6 ⟨⟨2,0,0,3,9,0,0,0,0⟩,some ⟨w4.heap.size,0,none⟩,3,3,[(⟨Bm W R [],none,0,0⟩:au),⟨Bm W R [-1],some ⟨i1,0,none⟩,1,1⟩,⟨Bm W R [-2],some ⟨i2,0,none⟩,1,1⟩]⟩ bT ⟨bP _ (Mod.refl _ _),Nat.le_refl _,fun i=>by unfold bz.get;split<;>simp⟩ bP (fun c=>absurd (show (2:Int)=6 from c) (by decide)) (t':=im W R 0) (c:=⟨0,0,1,3⟩) (r:=0) (by rw [ck,bW];exact fun _=>Axf bl.out);rw [<- cl] at s;rw [cx] at s;clear cx cW cX;replace ⟨ce,cy,bT,bP,s,cw,bW,ck⟩:=H8 ce cy bT bP s cw bW ck;replace ⟨cl,bX,bY,bZ,bN,bO⟩:=H6 cl bX bY bZ bN bO;go_wp2_with fail;refine s.out.mono ?_;rintro e w5 ⟨T5,rfl,cm,bQ,cJ⟩;have co:=cJ.vs.trans ck.out;have cp:tb=T5.tb:=by rw [cJ.tb];exact cl.out
 have aL:=p.out.trans (cD.out.mono p.out.size);clear cJ;clear a0 a1 a2 a3 a4 a5 a6 a7 a8 a9 cN cO cP;clear b0 b1 b2 b3 b4 b5 b6 b7 b8 b9 cQ cR cS;clear c0 c1 c2 c3 c4 c5 c6 c7 c8 c9 cT cU cV;clear bX bY bZ bN bO bI s bP bT cy ce cw bW ck cl bH cv ct cj ca cE cF ht cs cr ch bV bF ci;replace ⟨cm,bQ,co,cp,aL⟩:=H5 cm bQ co cp aL;have cY:bj=1\/bj=2\/bj=3:=by omega
 rcases cY with rfl | rfl | rfl
 .clear h1 h2 d1 d2 d3 d4 d5 d6;go_wp2_with fail;go_loopw [15,16,17,18,19] (fun kv _ _ _ _ wr=>∃ T:Tv,kv=.int .i64 0/\Hid (Fs w1 T wr)/\Hid (tb=T.tb)/\Hid (T.vs=[dh])/\Hid (T.pl=im W R 0)) (fun _ _ _ _ _ _=>0)
  case atStart=>exact ⟨T5,rfl,cm,cp,co,bQ⟩
  case round=>
   obtain ⟨T6,rfl,hP,bG,bJ,al⟩:=hrel;have cK:=Az h3;have bn:T6.js.length<=20:=(by rw [Sp al.out];show 3<=20;decide);replace bn:=Hh bn;have s:=I6 ⟨⟨6,0,1,0,0,0,0,0,0⟩,none,0,0,[]⟩ hP.out (Kp _ _ (fun i=>by unfold bz.get;split<;>(try simp)<;>(try omega))) (fun W' _=>Kq W') (fun _=>bn.out) (t':=qb W R 0) (c:=⟨0,0,0,0⟩) (r:=0) (by rw [bJ.out,al.out];exact (fun hr=>Aa5 (k:=0) bl.out h3 hr));rw [<- bG.out] at s;replace s:=Hh s;go_wp2_with fail;refine s.out.mono ?_;rintro e cZ ⟨T7,rfl,aW,u,bs⟩;have aX:=bs.vs.trans bJ.out;have aF:tb=(T7).tb:=(by rw [bs.tb];exact bG.out);clear bs;replace ⟨aW,u,aX,aF⟩:=H4 aW u aX aF;have m:=G3 aW.out (k:=0) (jp:=(Kr W R 3 1 (R-0) 1 [0] [(0,0)])) (by rw [u.out];rfl) 1 rfl;rw [<- aF.out] at m;replace m:=Hh m;go_wp2_with fail;refine m.out.mono ?_;rintro e v ⟨y,rfl,aY,bv⟩;have bw:=aW.out.drop bv;have aZ:(v.alloc (.cells Jz 46 (0,0))).heap[v.heap.size]?=some (.cells ai.zero.cells 46 (0,0)):=Af _ _;replace ⟨aY,bv,bw,aZ⟩:=H4 aY bv bw aZ;go_upto_region 20 with (refine Df rfl 46 _ _ rfl v.heap.size y.cells rfl rfl 46 _ aZ.out Cj rfl (Dz y) ?_);obtain ⟨W8,n⟩:=Ex ((v.alloc (.cells Jz 46 (0,0))).setRow v.heap.size y.cells);obtain ⟨jb,b⟩:=Ex (v.heap.size);have d:Below v.heap.size v W8:=(by rw [n];exact D9 Bn Ln _);have ba:W8.heap[jb]?=some (.cells y.cells 46 (0,0)):=(by rw [n,b];exact Dp _ _ _ _ 46 (0,0) aZ.out);rw [<- n,<- b];clear n b;have bb:=bw.out.drop d;clear d;replace ⟨ba,bb⟩:=H2 ba bb;have m:=G3 bb.out (k:=1) (jp:=(il W R 2 1 0 (-1) [] [])) (by rw [u.out];rfl) 2 rfl;rw [<- aF.out] at m;replace m:=Hh m;go_wp2_with fail;refine m.out.mono ?_;rintro e z ⟨y2,rfl,bc,aM⟩;have bx:=bb.out.drop aM;have bd:(z.alloc (.cells Jz 46 (0,0))).heap[z.heap.size]?=some (.cells ai.zero.cells 46 (0,0)):=Af _ _;replace ⟨bc,aM,bx,bd⟩:=H4 bc aM bx bd;go_upto_region 21 with (refine Df rfl 46 _ _ rfl z.heap.size y2.cells rfl rfl 46 _ bd.out Cj rfl (Dz y2) ?_);obtain ⟨W9,n⟩:=Ex ((z.alloc (.cells Jz 46 (0,0))).setRow z.heap.size y2.cells);obtain ⟨bA,b⟩:=Ex (z.heap.size);have d:Below z.heap.size z W9:=(by rw [n];exact D9 Bn Ln _);have be:W9.heap[bA]?=some (.cells y2.cells 46 (0,0)):=(by rw [n,b];exact Dp _ _ _ _ 46 (0,0) bd.out);rw [<- n,<- b];clear n b;have bB:=bx.out.drop d;have bC:=aM.out.trans (d.mono aM.out.size);clear d;replace ⟨be,bB,bC⟩:=H3 be bB bC;have am:=Ae bC.out ba.out (Ab ba.out)
   have c1:W9.cell? ⟨jb,14,none⟩=some (.int .i64 3):=by
    have e:y.pl.lf.st=3:=(by rw [aY.out];rfl);rw [<- e];exact Aa am 14
   have c2:W9.cell? ⟨jb,15,none⟩=some (.int .i64 1):=by
    have e:y.pl.lf.bm=1:=(by rw [aY.out];rfl);rw [<- e];exact Aa am 15
   have c3:W9.cell? ⟨bA,14,none⟩=some (.int .i64 1):=by
    have e:y2.pl.lf.st=1:=(by rw [bc.out];rfl);rw [<- e];exact Aa be.out 14
   have c4:W9.cell? ⟨bA,19,none⟩=some (.int .i64 (-1)):=by
    have e:y2.pl.start=-1:=(by rw [bc.out];rfl);rw [<- e];exact Aa be.out 19
   replace am:=Hh am;have s:=I6 ⟨⟨7,0,0,0,0,1,1,0,1⟩,none,0,0,[]⟩ bB.out (Kp _ _ (fun i=>by unfold bz.get;split<;>(try simp)<;>(try omega))) (fun W' _=>Kq W') (fun c=>absurd (show (7:Int)=6 from c) (by decide)) (t':=od W R) (c:=⟨0,0,0,0⟩) (r:=0) (by rw [aX.out,u.out];exact (fun _=>Axh bl.out));rw [<- aF.out] at s;replace s:=Hh s;go_wp2_with fail;refine s.out.mono ?_;rintro e cA ⟨cf,rfl,aN,t,aO⟩;have aP:=aO.vs.trans aX.out;have aG:tb=(cf).tb:=(by rw [aO.tb];exact aF.out);clear aO;replace ⟨aN,t,aP,aG⟩:=H4 aN t aP aG;clear c1 c2 c3 c4;have s:=I6 ⟨⟨6,0,100,0,0,0,0,0,0⟩,none,0,0,[]⟩ aN.out (Kp _ _ (fun i=>by unfold bz.get;split<;>(try simp)<;>(try omega))) (fun W' _=>Kq W') (fun _=>by rw [Sp (t).out];show 3<=20;decide) (t':=Aa4 W R) (c:=⟨0,0,0,0⟩) (r:=0) (by rw [aP.out,t.out];exact (fun hr=>Axo bl.out hr));rw [<- aG.out] at s;replace s:=Hh s;go_wp2_with fail;refine s.out.mono ?_;rintro e cB ⟨TE,rfl,an,l,bg⟩;have q:tb=(TE).tb:=(by rw [bg.tb];exact aG.out);clear bg;replace ⟨an,l,q⟩:=H3 an l q;have m:=G3 an.out (k:=0) (jp:=(Kr W R 5 1 R 1 [0] [])) (by rw [l.out];rfl) 1 rfl;rw [<- q.out] at m;replace m:=Hh m;go_wp2_with fail;refine m.out.mono ?_;rintro e f ⟨ya,rfl,aQ,aR⟩;have aS:=an.out.drop aR;have ao:(f.alloc (.cells Jz 46 (0,0))).heap[f.heap.size]?=some (.cells ai.zero.cells 46 (0,0)):=Af _ _;replace ⟨aQ,aR,aS,ao⟩:=H4 aQ aR aS ao;go_upto_region 27 with (refine Df rfl 46 _ _ rfl f.heap.size ya.cells rfl rfl 46 _ ao.out Cj rfl (Dz ya) ?_);obtain ⟨Wa,n⟩:=Ex ((f.alloc (.cells Jz 46 (0,0))).setRow f.heap.size ya.cells);obtain ⟨ja,b⟩:=Ex (f.heap.size);have d:Below f.heap.size f Wa:=(by rw [n];exact D9 Bn Ln _);have o:Wa.heap[ja]?=some (.cells ya.cells 46 (0,0)):=(by rw [n,b];exact Dp _ _ _ _ 46 (0,0) ao.out);rw [<- n,<- b];clear n b;have ap:=aS.out.drop d;clear d;replace ⟨o,ap⟩:=H2 o ap;have m:=G3 ap.out (k:=1) (jp:=(il W R 2 3 1 100 [0] [(0,0)])) (by rw [l.out];rfl) 2 rfl;rw [<- q.out] at m;replace m:=Hh m;go_wp2_with fail;refine m.out.mono ?_;rintro e g ⟨yb,rfl,aJ,ac⟩;have aT:=ap.out.drop ac;have av:(g.alloc (.cells Jz 46 (0,0))).heap[g.heap.size]?=some (.cells ai.zero.cells 46 (0,0)):=Af _ _;replace ⟨aJ,ac,aT,av⟩:=H4 aJ ac aT av;go_upto_region 28 with (refine Df rfl 46 _ _ rfl g.heap.size yb.cells rfl rfl 46 _ av.out Cj rfl (Dz yb) ?_);obtain ⟨Wb,n⟩:=Ex ((g.alloc (.cells Jz 46 (0,0))).setRow g.heap.size yb.cells);obtain ⟨bK,b⟩:=Ex (g.heap.size);have d:Below g.heap.size g Wb:=(by rw [n];exact D9 Bn Ln _);have aA:Wb.heap[bK]?=some (.cells yb.cells 46 (0,0)):=(by rw [n,b];exact Dp _ _ _ _ 46 (0,0) av.out);rw [<- n,<- b];clear n b;have aB:=aT.out.drop d;have aC:=ac.out.trans (d.mono ac.out.size);clear d;replace ⟨aA,aB,aC⟩:=H3 aA aB aC;have m:=G3 aB.out (k:=2) (jp:=(il W R 3 1 0 (-1) [] [])) (by rw [l.out];rfl) 3 rfl;rw [<- q.out] at m;replace m:=Hh m;go_wp2_with fail;refine m.out.mono ?_;rintro e j ⟨yc,rfl,aK,ad⟩;have aU:=aB.out.drop ad;have aD:(j.alloc (.cells Jz 46 (0,0))).heap[j.heap.size]?=some (.cells ai.zero.cells 46 (0,0)):=Af _ _;replace ⟨aK,ad,aU,aD⟩:=H4 aK ad aU aD;go_upto_region 29 with (refine Df rfl 46 _ _ rfl j.heap.size yc.cells rfl rfl 46 _ aD.out Cj rfl (Dz yc) ?_);obtain ⟨Wc,n⟩:=Ex ((j.alloc (.cells Jz 46 (0,0))).setRow j.heap.size yc.cells);obtain ⟨jc,b⟩:=Ex (j.heap.size);have d:Below j.heap.size j Wc:=(by rw [n];exact D9 Bn Ln _);have aV:Wc.heap[jc]?=some (.cells yc.cells 46 (0,0)):=(by rw [n,b];exact Dp _ _ _ _ 46 (0,0) aD.out);rw [<- n,<- b];clear n b;have aH:=aU.out.drop d;have aE:=ad.out.trans (d.mono ad.out.size);clear d;replace ⟨aV,aH,aE⟩:=H3 aV aH aE;have bD:=Ae aE.out (Ae aC.out o.out (Ab o.out)) (Ab (Ae aC.out o.out (Ab o.out)));have bi:=Ae aE.out aA.out (Ab aA.out);have bk:=aV.out;have aI:=aL.out.trans (aH.out.low.mono aL.out.size)
   have ta:Wc.cell? ⟨ja,14,none⟩=some (.int .i64 5):=by
    have e:ya.pl.lf.st=5:=(by rw [aQ.out];rfl);rw [<- e];exact Aa bD 14
   have da:Wc.cell? ⟨bK,14,none⟩=some (.int .i64 3):=by
    have e:yb.pl.lf.st=3:=(by rw [aJ.out];rfl);rw [<- e];exact Aa bi 14
   have dk:Wc.cell? ⟨bK,19,none⟩=some (.int .i64 100):=by
    have e:yb.pl.start=100:=(by rw [aJ.out];rfl);rw [<- e];exact Aa bi 19
   have tc:Wc.cell? ⟨jc,14,none⟩=some (.int .i64 1):=by
    have e:yc.pl.lf.st=1:=(by rw [aK.out];rfl);rw [<- e];exact Aa bk 14
   have dl:Wc.cell? ⟨jc,19,none⟩=some (.int .i64 (-1)):=by
    have e:yc.pl.start=-1:=(by rw [aK.out];rfl);rw [<- e];exact Aa bk 19
   replace ⟨bD,bi,bk,aI⟩:=H4 bD bi bk aI;go_wp2_with fail;go_ret;exact ⟨rfl,aI.out⟩
 .clear h1 h2 d1 d2 d3 d4 d5 d6;go_wp2_with fail;go_loopw [15,16,17,18,19] (fun kv _ _ _ _ wr=>∃ T:Tv,kv=.int .i64 0/\Hid (Fs w1 T wr)/\Hid (tb=T.tb)/\Hid (T.vs=[dh])/\Hid (T.pl=im W R 0)) (fun _ _ _ _ _ _=>0)
  case atStart=>exact ⟨T5,rfl,cm,cp,co,bQ⟩
  case round=>
   obtain ⟨T6,rfl,hP,bG,bJ,al⟩:=hrel;have cK:=Az h3;have bn:T6.js.length<=20:=(by rw [Sp al.out];show 3<=20;decide);replace bn:=Hh bn;have s:=I6 ⟨⟨6,0,1,0,0,0,0,0,0⟩,none,0,0,[]⟩ hP.out (Kp _ _ (fun i=>by unfold bz.get;split<;>(try simp)<;>(try omega))) (fun W' _=>Kq W') (fun _=>bn.out) (t':=qb W R 0) (c:=⟨0,0,0,0⟩) (r:=0) (by rw [bJ.out,al.out];exact (fun hr=>Aa5 (k:=0) bl.out h3 hr));rw [<- bG.out] at s;replace s:=Hh s;go_wp2_with fail;refine s.out.mono ?_;rintro e cZ ⟨T7,rfl,aW,u,bs⟩;have aX:=bs.vs.trans bJ.out;have aF:tb=(T7).tb:=(by rw [bs.tb];exact bG.out);clear bs;replace ⟨aW,u,aX,aF⟩:=H4 aW u aX aF;have m:=G3 aW.out (k:=0) (jp:=(Kr W R 3 1 (R-0) 1 [0] [(0,0)])) (by rw [u.out];rfl) 1 rfl;rw [<- aF.out] at m;replace m:=Hh m;go_wp2_with fail;refine m.out.mono ?_;rintro e v ⟨y,rfl,aY,bv⟩;have bw:=aW.out.drop bv;have aZ:(v.alloc (.cells Jz 46 (0,0))).heap[v.heap.size]?=some (.cells ai.zero.cells 46 (0,0)):=Af _ _;replace ⟨aY,bv,bw,aZ⟩:=H4 aY bv bw aZ;go_upto_region 20 with (refine Df rfl 46 _ _ rfl v.heap.size y.cells rfl rfl 46 _ aZ.out Cj rfl (Dz y) ?_);obtain ⟨W8,n⟩:=Ex ((v.alloc (.cells Jz 46 (0,0))).setRow v.heap.size y.cells);obtain ⟨jb,b⟩:=Ex (v.heap.size);have d:Below v.heap.size v W8:=(by rw [n];exact D9 Bn Ln _);have ba:W8.heap[jb]?=some (.cells y.cells 46 (0,0)):=(by rw [n,b];exact Dp _ _ _ _ 46 (0,0) aZ.out);rw [<- n,<- b];clear n b;have bb:=bw.out.drop d;clear d;replace ⟨ba,bb⟩:=H2 ba bb;have m:=G3 bb.out (k:=1) (jp:=(il W R 2 1 0 (-1) [] [])) (by rw [u.out];rfl) 2 rfl;rw [<- aF.out] at m;replace m:=Hh m;go_wp2_with fail;refine m.out.mono ?_;rintro e z ⟨y2,rfl,bc,aM⟩;have bx:=bb.out.drop aM;have bd:(z.alloc (.cells Jz 46 (0,0))).heap[z.heap.size]?=some (.cells ai.zero.cells 46 (0,0)):=Af _ _;replace ⟨bc,aM,bx,bd⟩:=H4 bc aM bx bd;go_upto_region 21 with (refine Df rfl 46 _ _ rfl z.heap.size y2.cells rfl rfl 46 _ bd.out Cj rfl (Dz y2) ?_);obtain ⟨W9,n⟩:=Ex ((z.alloc (.cells Jz 46 (0,0))).setRow z.heap.size y2.cells);obtain ⟨bA,b⟩:=Ex (z.heap.size);have d:Below z.heap.size z W9:=(by rw [n];exact D9 Bn Ln _);have be:W9.heap[bA]?=some (.cells y2.cells 46 (0,0)):=(by rw [n,b];exact Dp _ _ _ _ 46 (0,0) bd.out);rw [<- n,<- b];clear n b;have bB:=bx.out.drop d;have bC:=aM.out.trans (d.mono aM.out.size);clear d;replace ⟨be,bB,bC⟩:=H3 be bB bC;have am:=Ae bC.out ba.out (Ab ba.out)
   have c1:W9.cell? ⟨jb,14,none⟩=some (.int .i64 3):=by
    have e:y.pl.lf.st=3:=(by rw [aY.out];rfl);rw [<- e];exact Aa am 14
   have c2:W9.cell? ⟨jb,15,none⟩=some (.int .i64 1):=by
    have e:y.pl.lf.bm=1:=(by rw [aY.out];rfl);rw [<- e];exact Aa am 15
   have c3:W9.cell? ⟨bA,14,none⟩=some (.int .i64 1):=by
    have e:y2.pl.lf.st=1:=(by rw [bc.out];rfl);rw [<- e];exact Aa be.out 14
   have c4:W9.cell? ⟨bA,19,none⟩=some (.int .i64 (-1)):=by
    have e:y2.pl.start=-1:=(by rw [bc.out];rfl);rw [<- e];exact Aa be.out 19
   replace am:=Hh am;have s:=I6 ⟨⟨7,0,0,0,0,1,1,0,2⟩,none,0,0,[]⟩ bB.out (Kp _ _ (fun i=>by unfold bz.get;split<;>(try simp)<;>(try omega))) (fun W' _=>Kq W') (fun c=>absurd (show (7:Int)=6 from c) (by decide)) (t':=nz W R) (c:=⟨0,0,0,0⟩) (r:=0) (by rw [aX.out,u.out];exact (fun _=>Axi bl.out));rw [<- aF.out] at s;replace s:=Hh s;go_wp2_with fail;refine s.out.mono ?_;rintro e cA ⟨cf,rfl,aN,t,aO⟩;have aP:=aO.vs.trans aX.out;have aG:tb=(cf).tb:=(by rw [aO.tb];exact aF.out);clear aO;replace ⟨aN,t,aP,aG⟩:=H4 aN t aP aG;clear c1 c2 c3 c4;have s:=I6 ⟨⟨6,0,100,0,0,0,0,0,0⟩,none,0,0,[]⟩ aN.out (Kp _ _ (fun i=>by unfold bz.get;split<;>(try simp)<;>(try omega))) (fun W' _=>Kq W') (fun _=>by rw [Sp (t).out];show 3<=20;decide) (t':=(nz W R).jh) (c:=⟨0,0,0,0⟩) (r:=0) (by rw [aP.out,t.out];exact (fun hr=>Axp hr));rw [<- aG.out] at s;replace s:=Hh s;go_wp2_with fail;refine s.out.mono ?_;rintro e cB ⟨TE,rfl,an,l,bg⟩;have q:tb=(TE).tb:=(by rw [bg.tb];exact aG.out);clear bg;replace ⟨an,l,q⟩:=H3 an l q;have m:=G3 an.out (k:=0) (jp:=(Kr W R 6 1 R 1 [0] [])) (by rw [l.out];rfl) 1 rfl;rw [<- q.out] at m;replace m:=Hh m;go_wp2_with fail;refine m.out.mono ?_;rintro e f ⟨ya,rfl,aQ,aR⟩;have aS:=an.out.drop aR;have ao:(f.alloc (.cells Jz 46 (0,0))).heap[f.heap.size]?=some (.cells ai.zero.cells 46 (0,0)):=Af _ _;replace ⟨aQ,aR,aS,ao⟩:=H4 aQ aR aS ao;go_upto_region 27 with (refine Df rfl 46 _ _ rfl f.heap.size ya.cells rfl rfl 46 _ ao.out Cj rfl (Dz ya) ?_);obtain ⟨Wa,n⟩:=Ex ((f.alloc (.cells Jz 46 (0,0))).setRow f.heap.size ya.cells);obtain ⟨ja,b⟩:=Ex (f.heap.size);have d:Below f.heap.size f Wa:=(by rw [n];exact D9 Bn Ln _);have o:Wa.heap[ja]?=some (.cells ya.cells 46 (0,0)):=(by rw [n,b];exact Dp _ _ _ _ 46 (0,0) ao.out);rw [<- n,<- b];clear n b;have ap:=aS.out.drop d;clear d;replace ⟨o,ap⟩:=H2 o ap;have m:=G3 ap.out (k:=1) (jp:=(il W R 2 8 0 (-1) [] [])) (by rw [l.out];rfl) 2 rfl;rw [<- q.out] at m;replace m:=Hh m;go_wp2_with fail;refine m.out.mono ?_;rintro e g ⟨yb,rfl,aJ,ac⟩;have aT:=ap.out.drop ac;have av:(g.alloc (.cells Jz 46 (0,0))).heap[g.heap.size]?=some (.cells ai.zero.cells 46 (0,0)):=Af _ _;replace ⟨aJ,ac,aT,av⟩:=H4 aJ ac aT av;go_upto_region 28 with (refine Df rfl 46 _ _ rfl g.heap.size yb.cells rfl rfl 46 _ av.out Cj rfl (Dz yb) ?_);obtain ⟨Wb,n⟩:=Ex ((g.alloc (.cells Jz 46 (0,0))).setRow g.heap.size yb.cells);obtain ⟨bK,b⟩:=Ex (g.heap.size);have d:Below g.heap.size g Wb:=(by rw [n];exact D9 Bn Ln _);have aA:Wb.heap[bK]?=some (.cells yb.cells 46 (0,0)):=(by rw [n,b];exact Dp _ _ _ _ 46 (0,0) av.out);rw [<- n,<- b];clear n b;have aB:=aT.out.drop d;have aC:=ac.out.trans (d.mono ac.out.size);clear d;replace ⟨aA,aB,aC⟩:=H3 aA aB aC;have m:=G3 aB.out (k:=2) (jp:=(il W R 3 8 0 (-1) [] [])) (by rw [l.out];rfl) 3 rfl;rw [<- q.out] at m;replace m:=Hh m;go_wp2_with fail;refine m.out.mono ?_;rintro e j ⟨yc,rfl,aK,ad⟩;have aU:=aB.out.drop ad;have aD:(j.alloc (.cells Jz 46 (0,0))).heap[j.heap.size]?=some (.cells ai.zero.cells 46 (0,0)):=Af _ _;replace ⟨aK,ad,aU,aD⟩:=H4 aK ad aU aD;go_upto_region 29 with (refine Df rfl 46 _ _ rfl j.heap.size yc.cells rfl rfl 46 _ aD.out Cj rfl (Dz yc) ?_);obtain ⟨Wc,n⟩:=Ex ((j.alloc (.cells Jz 46 (0,0))).setRow j.heap.size yc.cells);obtain ⟨jc,b⟩:=Ex (j.heap.size);have d:Below j.heap.size j Wc:=(by rw [n];exact D9 Bn Ln _);have aV:Wc.heap[jc]?=some (.cells yc.cells 46 (0,0)):=(by rw [n,b];exact Dp _ _ _ _ 46 (0,0) aD.out);rw [<- n,<- b];clear n b;have aH:=aU.out.drop d;have aE:=ad.out.trans (d.mono ad.out.size);clear d;replace ⟨aV,aH,aE⟩:=H3 aV aH aE;have bD:=Ae aE.out (Ae aC.out o.out (Ab o.out)) (Ab (Ae aC.out o.out (Ab o.out)));have bi:=Ae aE.out aA.out (Ab aA.out);have bk:=aV.out;have aI:=aL.out.trans (aH.out.low.mono aL.out.size)
   have ta:Wc.cell? ⟨ja,14,none⟩=some (.int .i64 6):=by
    have e:ya.pl.lf.st=6:=(by rw [aQ.out];rfl);rw [<- e];exact Aa bD 14
   have da:Wc.cell? ⟨bK,14,none⟩=some (.int .i64 8):=by
    have e:yb.pl.lf.st=8:=(by rw [aJ.out];rfl);rw [<- e];exact Aa bi 14
   have tc:Wc.cell? ⟨jc,14,none⟩=some (.int .i64 8):=by
    have e:yc.pl.lf.st=8:=(by rw [aK.out];rfl);rw [<- e];exact Aa bk 14
   have kb:=Aay aH.out 0;rw [l.out,<- q.out,Axm] at kb
   have hq:∀ W:World,(Op.equalIn 10000 30 (.agg #[.int .i64 0,.int .i64 0,.int .i64 0,.int .i64 0]) (.agg #[.int .i64 0,.int .i64 0,.int .i64 0,.int .i64 0])).run Tryz.prog W=.ok true W:=fun W=>by
    have:=Te ⟨0,0,0,0⟩ ⟨0,0,0,0⟩ W;simpa using this
   replace ⟨bD,bi,bk,aI,kb⟩:=H5 bD bi bk aI kb;go_wp2_with (go_at_call 17;(with_reducible refine (kb.out).mono ?_);rintro e dg ⟨rfl,bE⟩;replace bE:=Hh bE);go_ret;exact ⟨rfl,aI.out.trans (bE.out.mono aI.out.size)⟩
 .clear h1 h2 d1 d2 d3 d4 d5 d6;have bU:T5.pl=if ((0:Nat):Int)<=R then im W R 0 else kz W R:=by rw [bQ.out,Ad (show ((0:Nat):Int)<=R from h3)]
  replace bU:=Hh bU;go_wp2_with fail;go_loopw [15,16,17,18,19] (fun kv _ _ _ _ wr=>∃ (k:Nat) (T:Tv),kv=.int .i64 k/\(k:Int)<=R+1/\Hid (Fs w1 T wr)/\Hid (tb=T.tb)/\Hid (T.vs=[dh])/\Hid (T.pl=if (k:Int)<=R then im W R k else kz W R)) (fun kv _ _ _ _ _=>7-(intOf kv).toNat)
  case atStart=>exact ⟨0,T5,rfl,by omega,cm,cp,co,bU⟩
  case round=>
   obtain ⟨k,T6,rfl,hk,hP,bG,bJ,cC⟩:=hrel;by_cases hc:(k:Int)<=R
   .have cK:=Az hc;have al:T6.pl=im W R k:=(by rw [cC.out,Ad hc]);have dr:IntKind.i64.wrap (1+(k:Int))=1+(k:Int):=F5 (by omega) (by omega);have ds:IntKind.i64.wrap ((k:Int)+1)=(k:Int)+1:=F5 (by omega) (by omega);have bn:T6.js.length<=20:=(by rw [Sp al];show 3<=20;decide);replace ⟨bn,al⟩:=H2 bn al;have s:=I6 ⟨⟨6,0,1+(k:Int),0,0,0,0,0,0⟩,none,0,0,[]⟩ hP.out (Kp _ _ (fun i=>by unfold bz.get;split<;>(try simp)<;>(try omega))) (fun W' _=>Kq W') (fun _=>bn.out) (t':=qb W R k) (c:=⟨0,0,0,0⟩) (r:=0) (by rw [bJ.out,al.out];exact (fun hr=>Aa5 bl.out hc hr));rw [<- bG.out] at s;replace s:=Hh s;go_wp2_with fail;refine s.out.mono ?_;rintro e cZ ⟨T7,rfl,aW,u,bs⟩;have aX:=bs.vs.trans bJ.out;have aF:tb=(T7).tb:=(by rw [bs.tb];exact bG.out);clear bs;replace ⟨aW,u,aX,aF⟩:=H4 aW u aX aF;have m:=G3 aW.out (k:=0) (jp:=(Kr W R 3 (k+1) (R-k) (1+k) [0] [(0,0)])) (by rw [u.out];rfl) 1 rfl;rw [<- aF.out] at m;replace m:=Hh m;go_wp2_with fail;refine m.out.mono ?_;rintro e v ⟨y,rfl,aY,bv⟩;have bw:=aW.out.drop bv;have aZ:(v.alloc (.cells Jz 46 (0,0))).heap[v.heap.size]?=some (.cells ai.zero.cells 46 (0,0)):=Af _ _;replace ⟨aY,bv,bw,aZ⟩:=H4 aY bv bw aZ;go_upto_region 20 with (refine Df rfl 46 _ _ rfl v.heap.size y.cells rfl rfl 46 _ aZ.out Cj rfl (Dz y) ?_);obtain ⟨W8,n⟩:=Ex ((v.alloc (.cells Jz 46 (0,0))).setRow v.heap.size y.cells);obtain ⟨jb,b⟩:=Ex (v.heap.size);have d:Below v.heap.size v W8:=(by rw [n];exact D9 Bn Ln _);have ba:W8.heap[jb]?=some (.cells y.cells 46 (0,0)):=(by rw [n,b];exact Dp _ _ _ _ 46 (0,0) aZ.out);rw [<- n,<- b];clear n b;have bb:=bw.out.drop d;clear d;replace ⟨ba,bb⟩:=H2 ba bb;have m:=G3 bb.out (k:=1) (jp:=(il W R 2 1 0 (-1) [] [])) (by rw [u.out];rfl) 2 rfl;rw [<- aF.out] at m;replace m:=Hh m;go_wp2_with fail;refine m.out.mono ?_;rintro e z ⟨y2,rfl,bc,aM⟩;have bx:=bb.out.drop aM;have bd:(z.alloc (.cells Jz 46 (0,0))).heap[z.heap.size]?=some (.cells ai.zero.cells 46 (0,0)):=Af _ _;replace ⟨bc,aM,bx,bd⟩:=H4 bc aM bx bd;go_upto_region 21 with (refine Df rfl 46 _ _ rfl z.heap.size y2.cells rfl rfl 46 _ bd.out Cj rfl (Dz y2) ?_);obtain ⟨W9,n⟩:=Ex ((z.alloc (.cells Jz 46 (0,0))).setRow z.heap.size y2.cells);obtain ⟨bA,b⟩:=Ex (z.heap.size);have d:Below z.heap.size z W9:=(by rw [n];exact D9 Bn Ln _);have be:W9.heap[bA]?=some (.cells y2.cells 46 (0,0)):=(by rw [n,b];exact Dp _ _ _ _ 46 (0,0) bd.out);rw [<- n,<- b];clear n b;have bB:=bx.out.drop d;have bC:=aM.out.trans (d.mono aM.out.size);clear d;replace ⟨be,bB,bC⟩:=H3 be bB bC;have am:=Ae bC.out ba.out (Ab ba.out)
    have c1:W9.cell? ⟨jb,14,none⟩=some (.int .i64 3):=by
     have e:y.pl.lf.st=3:=(by rw [aY.out];rfl);rw [<- e];exact Aa am 14
    have c2:W9.cell? ⟨jb,15,none⟩=some (.int .i64 ((k:Int)+1)):=by
     have e:y.pl.lf.bm=(k:Int)+1:=(by rw [aY.out];rfl);rw [<- e];exact Aa am 15
    have c3:W9.cell? ⟨bA,14,none⟩=some (.int .i64 1):=by
     have e:y2.pl.lf.st=1:=(by rw [bc.out];rfl);rw [<- e];exact Aa be.out 14
    have c4:W9.cell? ⟨bA,19,none⟩=some (.int .i64 (-1)):=by
     have e:y2.pl.start=-1:=(by rw [bc.out];rfl);rw [<- e];exact Aa be.out 19
    replace am:=Hh am;have s:=I6 ⟨⟨7,0,0,0,0,1,(k:Int)+1,0,3⟩,none,0,0,[]⟩ bB.out (Kp _ _ (fun i=>by unfold bz.get;split<;>(try simp)<;>(try omega))) (fun W' _=>Kq W') (fun c=>absurd (show (7:Int)=6 from c) (by decide)) (t':=(if (k:Int)+1<=R then im W R (k+1) else kz W R)) (c:=⟨0,0,0,0⟩) (r:=0) (by rw [aX.out,u.out];exact (fun _=>Axl bl.out hc));rw [<- aF.out] at s;replace s:=Hh s;go_wp2_with fail;refine s.out.mono ?_;rintro e cA ⟨cf,rfl,aN,t,aO⟩;have aP:=aO.vs.trans aX.out;have aG:tb=(cf).tb:=(by rw [aO.tb];exact aF.out);clear aO;replace ⟨aN,t,aP,aG⟩:=H4 aN t aP aG;go_wp2_with fail;go_roundw
    case rel=>exact ⟨k+1,cf,by go_num,by omega,aN,aG,aP,Hh (by rw [show ((k+1:Nat):Int)=(k:Int)+1 by omega];exact t.out)⟩
    case measure=>simp [intOf];omega
   .have cK:=Aw hc;have al:T6.pl=kz W R:=(by rw [cC.out,Ac hc]);replace al:=Hh al;have s:=I6 ⟨⟨6,0,100,0,0,0,0,0,0⟩,none,0,0,[]⟩ hP.out (Kp _ _ (fun i=>by unfold bz.get;split<;>(try simp)<;>(try omega))) (fun W' _=>Kq W') (fun _=>by rw [Sp (al).out];show 3<=20;decide) (t':=(kz W R).jh) (c:=⟨0,0,0,0⟩) (r:=0) (by rw [bJ.out,al.out];exact (fun hr=>Axq bl.out hr));rw [<- bG.out] at s;replace s:=Hh s;go_wp2_with fail;refine s.out.mono ?_;rintro e cB ⟨TE,rfl,an,l,bg⟩;have q:tb=(TE).tb:=(by rw [bg.tb];exact bG.out);clear bg;replace ⟨an,l,q⟩:=H3 an l q;have m:=G3 an.out (k:=0) (jp:=(Kr W R 7 (R+1) 0 (1+R) [0] [])) (by rw [l.out];rfl) 1 rfl;rw [<- q.out] at m;replace m:=Hh m;go_wp2_with fail;refine m.out.mono ?_;rintro e f ⟨ya,rfl,aQ,aR⟩;have aS:=an.out.drop aR;have ao:(f.alloc (.cells Jz 46 (0,0))).heap[f.heap.size]?=some (.cells ai.zero.cells 46 (0,0)):=Af _ _;replace ⟨aQ,aR,aS,ao⟩:=H4 aQ aR aS ao;go_upto_region 27 with (refine Df rfl 46 _ _ rfl f.heap.size ya.cells rfl rfl 46 _ ao.out Cj rfl (Dz ya) ?_);obtain ⟨Wa,n⟩:=Ex ((f.alloc (.cells Jz 46 (0,0))).setRow f.heap.size ya.cells);obtain ⟨ja,b⟩:=Ex (f.heap.size);have d:Below f.heap.size f Wa:=(by rw [n];exact D9 Bn Ln _);have o:Wa.heap[ja]?=some (.cells ya.cells 46 (0,0)):=(by rw [n,b];exact Dp _ _ _ _ 46 (0,0) ao.out);rw [<- n,<- b];clear n b;have ap:=aS.out.drop d;clear d;replace ⟨o,ap⟩:=H2 o ap;have m:=G3 ap.out (k:=1) (jp:=(il W R 2 8 0 (-1) [] [])) (by rw [l.out];rfl) 2 rfl;rw [<- q.out] at m;replace m:=Hh m;go_wp2_with fail;refine m.out.mono ?_;rintro e g ⟨yb,rfl,aJ,ac⟩;have aT:=ap.out.drop ac;have av:(g.alloc (.cells Jz 46 (0,0))).heap[g.heap.size]?=some (.cells ai.zero.cells 46 (0,0)):=Af _ _;replace ⟨aJ,ac,aT,av⟩:=H4 aJ ac aT av;go_upto_region 28 with (refine Df rfl 46 _ _ rfl g.heap.size yb.cells rfl rfl 46 _ av.out Cj rfl (Dz yb) ?_);obtain ⟨Wb,n⟩:=Ex ((g.alloc (.cells Jz 46 (0,0))).setRow g.heap.size yb.cells);obtain ⟨bK,b⟩:=Ex (g.heap.size);have d:Below g.heap.size g Wb:=(by rw [n];exact D9 Bn Ln _);have aA:Wb.heap[bK]?=some (.cells yb.cells 46 (0,0)):=(by rw [n,b];exact Dp _ _ _ _ 46 (0,0) av.out);rw [<- n,<- b];clear n b;have aB:=aT.out.drop d;have aC:=ac.out.trans (d.mono ac.out.size);clear d;replace ⟨aA,aB,aC⟩:=H3 aA aB aC;have m:=G3 aB.out (k:=2) (jp:=(il W R 3 8 0 (-1) [] [])) (by rw [l.out];rfl) 3 rfl;rw [<- q.out] at m;replace m:=Hh m;go_wp2_with fail;refine m.out.mono ?_;rintro e j ⟨yc,rfl,aK,ad⟩;have aU:=aB.out.drop ad;have aD:(j.alloc (.cells Jz 46 (0,0))).heap[j.heap.size]?=some (.cells ai.zero.cells 46 (0,0)):=Af _ _;replace ⟨aK,ad,aU,aD⟩:=H4 aK ad aU aD;go_upto_region 29 with (refine Df rfl 46 _ _ rfl j.heap.size yc.cells rfl rfl 46 _ aD.out Cj rfl (Dz yc) ?_);obtain ⟨Wc,n⟩:=Ex ((j.alloc (.cells Jz 46 (0,0))).setRow j.heap.size yc.cells);obtain ⟨jc,b⟩:=Ex (j.heap.size);have d:Below j.heap.size j Wc:=(by rw [n];exact D9 Bn Ln _);have aV:Wc.heap[jc]?=some (.cells yc.cells 46 (0,0)):=(by rw [n,b];exact Dp _ _ _ _ 46 (0,0) aD.out);rw [<- n,<- b];clear n b;have aH:=aU.out.drop d;have aE:=ad.out.trans (d.mono ad.out.size);clear d;replace ⟨aV,aH,aE⟩:=H3 aV aH aE;have bD:=Ae aE.out (Ae aC.out o.out (Ab o.out)) (Ab (Ae aC.out o.out (Ab o.out)));have bi:=Ae aE.out aA.out (Ab aA.out);have bk:=aV.out;have aI:=aL.out.trans (aH.out.low.mono aL.out.size)
    have ta:Wc.cell? ⟨ja,14,none⟩=some (.int .i64 7):=by
     have e:ya.pl.lf.st=7:=(by rw [aQ.out];rfl);rw [<- e];exact Aa bD 14
    have da:Wc.cell? ⟨bK,14,none⟩=some (.int .i64 8):=by
     have e:yb.pl.lf.st=8:=(by rw [aJ.out];rfl);rw [<- e];exact Aa bi 14
    have tc:Wc.cell? ⟨jc,14,none⟩=some (.int .i64 8):=by
     have e:yc.pl.lf.st=8:=(by rw [aK.out];rfl);rw [<- e];exact Aa bk 14
    have kb:=Aay aH.out 0;rw [l.out,<- q.out,Axn] at kb
    have hq:∀ W:World,(Op.equalIn 10000 30 (.agg #[.int .i64 0,.int .i64 0,.int .i64 0,.int .i64 0]) (.agg #[.int .i64 0,.int .i64 0,.int .i64 0,.int .i64 0])).run Tryz.prog W=.ok true W:=fun W=>by
     have:=Te ⟨0,0,0,0⟩ ⟨0,0,0,0⟩ W;simpa using this
    replace ⟨bD,bi,bk,aI,kb⟩:=H5 bD bi bk aI kb;go_wp2_with (go_at_call 17;(with_reducible refine (kb.out).mono ?_);rintro e dg ⟨rfl,bE⟩;replace bE:=Hh bE);go_ret;exact ⟨rfl,aI.out.trans (bE.out.mono aI.out.size)⟩
end Go.Proofs.YtimlcnhcjndijaaGreatDoor
