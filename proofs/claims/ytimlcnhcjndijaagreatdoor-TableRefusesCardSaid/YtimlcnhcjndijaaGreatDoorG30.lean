/- Parts of a proof. No condition. -/
import Derived.Test.YtimlcnhcjndijaaGreatDoorG27
import Derived.Test.YtimlcnhcjndijaaGreatDoorG29
set_option linter.all false
set_option maxRecDepth 100000
set_option maxHeartbeats 6400000
namespace Go.Proofs.YtimlcnhcjndijaaGreatDoor
open Option renaming none->I,some->Z
open Value renaming slice->J,int->G,string->Y,tuple->E,pointer->Q,bool->D
open Obj renaming cells->V
open IntKind renaming i64->O
open Ending renaming returned->K
open Go renaming World->WD,Value->VL
open Go.RowKit renaming Below->BW
open Go.Proofs.Tryz
section
open Go.RowKit Go.Maps Go.Lib
structure Bf {α:Type} (cells:α->Array VL) (sz:Nat) (Ty:TypeId) (w:WD) (B:Nat) (v:VL) (xs:List α):Prop where
 row:w.ownsRow B Ty sz v xs.length (Av cells xs)
variable {α:Type} {cells:α->Array VL} {sz B:Nat} {Ty:TypeId} {w w':WD} {v:VL} {xs:List α}
def Bf.nil (cells:α->Array VL) (sz:Nat) (Ty:TypeId) (w:WD) (B:Nat):Bf cells sz Ty w B (J I 0 0) []:=⟨Nb _ _ _ _⟩
def Bf.mod {S:Nat->Prop} (h:Bf cells sz Ty w B v xs) (a:Mod S w w') (b:∀k,v.ownBlock=Z k->¬S k):Bf cells sz Ty w' B v xs:=⟨Bb h.row a b⟩
def Bf.low (h:Bf cells sz Ty w B v xs) (a:BW w.heap.size w w'):Bf cells sz Ty w' B v xs:=h.mod (Mod.ag (S:=λ_=>False) a) (λ_ _ c=>c)
def Bf.lt (h:Bf cells sz Ty w B v xs):∀k,v.ownBlock=Z k->B<=k/\k<w.heap.size:=λk a=>h.row.lt k a
def Bf.len (h:Bf cells sz Ty w B v xs):∃so n c,v=J so n c/\n=xs.length/\n<=c:=by
 rcases h.row.2 with⟨rfl,h0⟩|⟨g,cap,a,rfl,_,_,h1,_⟩
 .exact ⟨I,0,0,rfl,h0.symm,Nat.le_refl _⟩
 .exact ⟨_,_,_,rfl,rfl,h1⟩
def Bf.aw (h:Bf cells sz Ty w B v xs) {k:Nat} (b:v.ownBlock=Z k):∃c,w.heap[k]?=Z (V c Ty (0,0)):=by
 obtain⟨c,a,_⟩:=C8 h.row b;exact⟨c,a⟩
def Al.aw {l:List Int} (h:Al w B v l) {k:Nat} (b:v.ownBlock=Z k):∃c,w.heap[k]?=Z (V c 3 (0,0)):=by
 obtain⟨c,a,_⟩:=C8 h.row b;exact⟨c,a⟩
def Al.zp {so:Option Addr} {n c:Nat} {l:List Int} (h:Al w B (J so n c) l):n=l.length:=by
 obtain⟨a,m,b,e,d⟩:=h.len;injection e with _ e;omega
def Ap.pl {so:Option Addr} {n:Nat} {l:List Int} (h:Ap w so n l):Pl.Ap w so n l:=
 ⟨h.len,h.max,λi g=>by
  have d:l[i]?=Z (l[i]'(by rw[h.len];exact g)):=A4 _;obtain⟨b,c,e,a,f⟩:=h.cell i _ d;refine⟨b,c,e,a,?_⟩;rw[f]
  simp[Pl.zi,List.getD,d]⟩
def Ap.zq {so:Option Addr} {n:Nat} {l:List Int} (h:Pl.Ap w so n l):Ap w so n l:=
 ⟨h.len,h.max,λi x d=>by
  have g:=(Aq.1 d).1;obtain⟨b,c,e,a,f⟩:=h.cell i (by rw[<-h.len];exact g);refine⟨b,c,e,a,?_⟩;rw[f]
  simp[Pl.zi,List.getD,d]⟩
def Bf.cell (d:∀x,(cells x).size=sz) {f:Option Addr} {n c:Nat} (h:Bf cells sz Ty w B (J f n c) xs) (i:Nat) (x:α) (m:xs[i]?=Z x):∃b a,f=Z ⟨b,a,I⟩/\b<w.heap.size/\a=0/\∀j,j<sz->w.cell? ⟨b,a+i*sz+j,I⟩=(cells x)[j]?:=by
 have t:=(Aq.1 m).1;have l:=h.row;rcases l.2 with⟨e,h0⟩|⟨g,cap,o,e,s,p,r,u,k⟩
 .omega
 .injection e with e1 e2 e3;subst e1 e2 e3;refine⟨g,0,rfl,Ab p,rfl,λj q=>?_⟩
  rw[Cn,Fo l (i*sz+j) (by
   have:(i+1)*sz<=xs.length*sz:=Wr _ ao9;rw[K7]at this
   omega),Iw d xs m q]
def Bf.zw {j:Option Addr} {n c:Nat} {f:List eo} {Ty:TypeId} (h:Bf Tz 5 Ty w B (J j n c) f) (p:f.length<=1000000):Qc w j n f:=by
 obtain⟨so,m,d,e,o,_⟩:=h.len;injection e with e1 e2 e3;refine⟨ao9,ao9,λi x l=>?_⟩;obtain⟨b,g,e,a,_,k⟩:=Bf.cell (sz:=5) (cells:=Tz) (λ_=>rfl) h i x l;exact⟨b,g,e,a,k⟩
def Bf.zx {g:Option Addr} {n c:Nat} {ws:List dj} {Ty:TypeId} (h:Bf Rn 7 Ty w B (J g n c) ws) (o:ws.length<=1000000):Kw w g n ws:=by
 obtain⟨so,m,d,e,l,_⟩:=h.len;injection e with e1 e2 e3;refine⟨ao9,ao9,λi x k=>?_⟩;obtain⟨b,f,e,a,_,j⟩:=Bf.cell (sz:=7) (cells:=Rn) (λ_=>rfl) h i x k;exact⟨b,f,e,a,j⟩
def Bf.rows {ok:WD->α->Prop} (f:∀x,(cells x).size=sz) {j:Option Addr} {n c:Nat} (h:Bf cells sz Ty w B (J j n c) xs) (q:xs.length<=1000000) (o:∀x,x∈xs->ok w x):Pl.Mw cells sz ok w j n xs:=by
 obtain⟨so,m,d,e,p,_⟩:=h.len;injection e with e1 e2 e3;refine⟨ao9,ao9,λi x k=>?_⟩;obtain⟨b,g,e,a,_,l⟩:=h.cell f i x k;exact⟨b,g,e,a,l,o x (Ai k)⟩
def Bf.snoc {L:Nat} {y:α} (h:w.ownsRow B Ty sz v (L+1) (Av cells xs++(cells y).toList)) (a:xs.length=L):Bf cells sz Ty w B v (xs++[y]):=⟨by
 rw[Az,Pm,Sl,a]
 exact h⟩
def Bf.at_ {L:Nat} (h:Bf cells sz Ty w B v xs) (a:xs.length=L):w.ownsRow B Ty sz v L (Av cells xs):=by
 rw[<-a];exact h.row
def Adi (w:WD) (cs:Array VL) (T:TypeId):∀j u,cs.toList[j]?=Z u->(w.alloc (V cs T)).cell? ((⟨w.heap.size,0,I⟩:Addr).add j)=Z u:=Pl.Ac5 w cs T
def Adj {p:Array Oper} {rest:List Oper} {o:Oper} {a:Act} {Q9q:Exit->Act->WD->Prop} (al:o.guard=I) (s x:Operand) (t:TypeId)
  (ho:o.op=.call { callee:=.builtin .append,args:=#[s,x],argTypes:=#[t,t] }) (B:Nat) (i:TypeInfo) (z:VL) (b:Nat) (ht:prog.underlying t=Z (.slice Ty)) (hi:prog.info? Ty=Z i) (hz:i.zero=Z z) (am:i.size=sz) (ad:i.bytes=b) (an:z.cells.size=sz) (h0:0<sz) (ac:b<=1000)
  (af:∀y,(cells y).size=sz) (v:VL) (hs:a.eval s=v) (L:Nat) (m:Bf cells sz Ty w B v xs) (q:xs.length=L) (k:Nat) (c:Nat) (hx:a.eval x=J (Z ⟨k,0,I⟩) 1 c) (y:α) (l:∀u∈(cells y).toList,u.oneCell'=true) {T2:TypeId} {fr:Nat×Nat} (hk:w.heap[k]?=Z (V (cells y) T2 fr)) (hL:L<=1000000) (hb:B<=w.heap.size)
  (h:∀g cap w',Bf cells sz Ty w' B (J (Z ⟨g,0,I⟩) (L+1) cap) (xs++[y])->w.grownBy w' v.ownBlock->(v.ownBlock=Z g\/g=w.heap.size)->wpList prog p Q9q rest (a.put o.dst (J (Z ⟨g,0,I⟩) (L+1) cap)) w') :
  wpList prog p Q9q (o :: rest) a w:=by
 subst q;refine R2 w al s x t ho B Ty i z sz b ht hi hz am ad an h0 v xs.length (Av cells xs) hs m.row ⟨k,0,I⟩ 1 c (cells y).toList hx (by simp[af y]) ?_ l (Ff (n:=xs.length) ao9) ?_ hb ?_
 .intro j u hu;show w.cell? ((⟨k,0,I⟩:Addr).add j)=Z u;have:=Aa hk j
  have e:(⟨k,0,I⟩:Addr).add j=⟨k,j,I⟩:=by
   cases j with
   | zero=>rfl
   | succ j=>simp[Addr.add]
  rw[e,this];simpa using hu
 .have:(xs.length+1)*b<=1000001*1000:=Nat.mul_le_mul ao9 ac;omega
 .intro v' w' d f _ r;obtain⟨g,cap,rfl⟩:=Joins.ownsRow_form d ao9;refine h g cap w' ⟨?_⟩ f ?_
  .rw [Az,Pm,Sl];exact d
  .rcases r with e|e
   .exact .inl e.symm
   .simp [Value.ownBlock]at e;exact .inr e
end
section
open Go.RowKit Go.Maps Go.Lib
def Axs:(prog.info? 261).map (λi=>(i.zero,i.size,i.bytes))=Z (Z (.agg #[J I 0 0,G O 0,G O 0,G O 0,G O 0,G O 0]),6,64):=by kernel_rfl
def Axt:(prog.info? 259).map (λi=>(i.zero,i.size,i.bytes))=Z (Z (.agg #[Y ByteArray.empty,G O 0,G O 0,G O 0,G O 0]),5,48):=by kernel_rfl
structure oc (w:WD) (us:List eo) (hv uv:VL) (hs:List Pl.Ax) (wr:WD):Prop where
 low:BW w.heap.size w wr
 aj:Bf Pl.Ax.cells 6 261 wr w.heap.size hv hs
 ji:Bf Tz 5 259 wr w.heap.size uv us
 tf:∀h,h∈hs->Al wr w.heap.size (J h.go h.gn h.gc) h.eh
variable {w wr w1 w2:WD} {us:List eo} {hv uv:VL} {hs:List Pl.Ax}
def oc.drop (h:oc w us hv uv hs wr) (a:BW wr.heap.size wr w1):oc w us hv uv hs w1:=
 ⟨h.low.trans (a.mono h.low.size),h.aj.low a,h.ji.low a,λx b=>(h.tf x b).mod (Mod.ag (S:=λ_=>False) a) (λ_ _ c=>c)⟩
def oc.use (h:oc w us hv uv hs wr) (j:BW wr.heap.size wr w1) (f:w1.grownBy w2 uv.ownBlock) {b:VL} {u:eo} (l:Bf Tz 5 259 w2 w.heap.size b (us++[u])):oc w (us++[u]) hv b hs w2:=by
 have h1:=h.drop j;have g:=Mod.grown (S:=λk=>uv.ownBlock=Z k) f (λk a=>a);refine⟨h1.low.grown f h1.low.size (λk a=>(h1.ji.lt k a).1),h1.aj.mod g (λk a e=>?_),l,λx i=>(h1.tf x i).mod g (λk a e=>?_)⟩
 .obtain ⟨c,d⟩:=h1.ji.aw e;exact Bq h1.aj.row d ad9 a
 .obtain ⟨c,d⟩:=h1.ji.aw e;exact Bq (h1.tf x i).row d ad9 a
def oc.hold (h:oc w us hv uv hs wr) (l:BW wr.heap.size wr w1) (i:w1.grownBy w2 hv.ownBlock) {b:VL} {x:Pl.Ax} (m:Bf Pl.Ax.cells 6 261 w2 w.heap.size b (hs++[x])) (n:Al w1 w.heap.size (J x.go x.gn x.gc) x.eh):oc w us b uv (hs++[x]) w2:=by
 have h1:=h.drop l;have j:=Mod.grown (S:=λk=>hv.ownBlock=Z k) i (λk a=>a);refine⟨h1.low.grown i h1.low.size (λk a=>(h1.aj.lt k a).1),m,h1.ji.mod j (λk a e=>?_),λy d=>?_⟩
 .obtain ⟨c,g⟩:=h1.aj.aw e;exact Bq h1.ji.row g ad9 a
 .have f:Al w1 w.heap.size (J y.go y.gn y.gc) y.eh:=by
   rcases C4.1 d with d|d
   .exact h1.tf y d
   .rw [Jy.1 d];exact n
  refine f.mod j (λk a e=>?_);obtain⟨c,g⟩:=h1.aj.aw e;exact Bq f.row g ad9 a
def Axu (l:List Jb) (j:Jb):Dx (l++[j])=Dx l++if j.live=true then[⟨j.sp.user,Kr j⟩]else[]:=by
 unfold Dx;rw[Pc,C2];congr 1
 by_cases q:j.live=true<;>simp[q]
def Axv (l:List Jb) (j:Jb):Ie (l++[j])=Ie l++if j.live=true then[((j.parts.filter λp=>decide (p.2=0)).map Prod.fst,j.sp.df,Lg j)]else[]:=by
 unfold Ie;rw[Pc,C2];congr 1
 by_cases q:j.live=true<;>simp[q]
def Al.pl {B:Nat} {so:Option Addr} {n c:Nat} {l:List Int} (h:Al w B (J so n c) l):Pl.Ap w so n l/\n<=c:=by
 obtain⟨d,g,f,e,a,b,_⟩:=On h;injection e with e1 e2 e3;subst e1 e2 e3;exact⟨b.pl,a⟩
def Adl (w:WD) (fy:List Jb) (e:Ending) (w':WD):Prop:=
 ∃ho hc uo uc hs,e=K (E #[J ho hs.length hc,J uo (Dx fy).length uc])/\Pl.Y5 w' ho hs.length hs/\hs.map Pl.Ax.er=(Ie fy).map M0/\Qc w' uo (Dx fy).length (Dx fy)/\BW w.heap.size w w'
def oc.post {a:List Jb} {e j:Option Addr} {c g b f:Nat} (h:oc w (Dx a) (J e c b) (J j g f) hs wr) (k:hs.map Pl.Ax.er=(Ie a).map M0) (u:a.length<=1000):Adl w a (K (E #[J e c b,J j g f])) wr:=by
 have o:(Dx a).length<=a.length:=by unfold Dx;rw[Ar];exact Ob _ _
 have n:hs.length<=a.length:=by have:=Cd List.length k;simp only[Ar]at this;rw[this];unfold Ie;rw[Ar];exact Ob _ _
 obtain⟨_,_,_,l,s,_⟩:=h.aj.len;injection l with a1 a2 a3;obtain⟨_,_,_,m,t,_⟩:=h.ji.len;injection m with b1 b2 b3;have d:c=hs.length:=ao9
 have i:g=(Dx a).length:=ao9
 subst d i;refine⟨e,b,j,f,hs,rfl,Bf.rows (cells:=Pl.Ax.cells) (sz:=6) (ok:=Pl.Ax.ok) (λ_=>rfl) h.aj ao9 (λx p=>?_),k,h.ji.zw ao9,h.low⟩;obtain⟨q,r⟩:=(h.tf x p).pl;exact⟨q,r⟩
end
section
open Go.RowKit Go.Maps Go.Lib
def Axw:0<5:=Gn _
def Axx {W:WD} {b:Nat} {i a1 a2 a3 j k:VL} {T:TypeId} (h:W.heap[b]?=Z (V #[i,a1,a2,a3,j,k] T (0,0))) (a c d e f g:VL) :
  ((((((W.setCell ⟨b,0,I⟩ a).setCell ⟨b,1,I⟩ c).setCell ⟨b,2,I⟩ d).setCell ⟨b,3,I⟩ e).setCell ⟨b,4,I⟩ f).setCell ⟨b,5,I⟩ g).heap[b]?=Z (V #[a,c,d,e,f,g] T (0,0)):=by
 have l:=Am (Am (Am (Am (Am (Am h 0 a) 1 c) 2 d) 3 e) 4 f) 5 g;simpa using l
def Qd (j:Jb):List Int:=(j.parts.filter λp=>decide (p.2=0)).map Prod.fst
def L1 (j:Jb) (n:Nat):List Int:=((j.parts.take n).filter λp=>decide (p.2=0)).map Prod.fst
def Axy {j:Jb} {n:Nat} {p:Int×Int} (h:j.parts[n]?=Z p):L1 j (n+1)=L1 j n++if p.2=0 then[p.1]else[]:=by
 unfold L1;rw[Je h,Pc,C2];congr 1
 by_cases q:p.2=0<;>simp[q]
def Axz (j:Jb) (n:Nat):(L1 j n).length<=n:=by
 unfold L1;rw[Ar];exact Ay (Ob _ _) (Qk _ _)
structure HoU (w:WD) (us:List eo) (hv:VL) (hs:List Pl.Ax) (v:VL) (wx:WD):Prop where
 ex:∃so n c,v=J so n c
 at_:oc w us hv v hs wx
structure HoB (w0:WD) (x:Pl.Ax) (v:VL) (wx:WD):Prop where
 ex:∃b,v=Q (Z ⟨b,0,I⟩)/\w0.heap.size<=b/\wx.heap[b]?=Z (V x.cells 261 (0,0))
 low:BW w0.heap.size w0 wx
def Ax0 {w:WD} {T:Tv} (h:An w T) (bS:∀j,j∈T.js->Adk j.2.pl) (ch:T.js.length<=1000) (bX:∀j,j∈T.js->j.2.pn<=1000) :
  Calls prog 135 #[Q (Z ⟨T.tb,0,I⟩)] w (Adl w T.pl.ab):=by
 obtain⟨cb,aF,aO,av,aA⟩:=B4 Axs;obtain⟨ca,aE,aN,ao,ap⟩:=B4 Axt;obtain⟨so,cap,bg,bT,b8,aj⟩:=h.ny;have c4:=Bk h.head 4 T.jv rfl;rw[bg]at c4;obtain⟨m,hm⟩:=Ex (T.js.length);obtain⟨tb,ht⟩:=Ex (T.tb);rw[<-hm]at c4 ch bT b8;rw[<-ht]at c4;rw[<-ht];have bn:T.pl.ab.length=m:=by rw[hm];simp[Tv.pl]
 have bF:oc w (Dx (T.pl.ab.take 0)) (J I 0 0) (J I 0 0) [] w:=⟨Below.refl _ _,Bf.nil _ _ _ _ _,Bf.nil _ _ _ _ _,λx hx=>by simp at hx⟩;have bD:([]:List Pl.Ax).map Pl.Ax.er=(Ie (T.pl.ab.take 0)).map M0:=rfl;replace⟨h,bS,bX,bg,bT,aj,ht,hm⟩:=H8 h bS bX bg bT aj ht hm;replace⟨bn,bF,bD,aF,aO,av,aA,aE⟩:=H8 bn bF bD aF aO av aA aE;replace⟨aN,ao,ap⟩:=H3 aN ao ap;go_enter func135,ntmps135;go_wp2_with fail;go_loopw [4,5,7,8,10,17,52] (λhv uv _ _ _ iv _ wr=>∃(k:Nat) (hs:List Pl.Ax),iv=G O k/\k<=m/\Hid (oc w (Dx (T.pl.ab.take k)) hv uv hs wr)/\Hid (hs.map Pl.Ax.er=(Ie (T.pl.ab.take k)).map M0)) (λ_ _ _ _ _ iv _ _=>m-(intOf iv).toNat)
 case atStart=>exact⟨0,[],rfl,As _,bF,bD⟩
 case round=>
  obtain⟨k,hs,rfl,ct,hH,hE⟩:=hrel;obtain⟨bs,hn,hc,rfl,aW,_⟩:=hH.aj.len;obtain⟨b2,un,uc,rfl,aM,_⟩:=hH.ji.len;by_cases cr:k<m
  .have ce:(k:Int)<m:=ao9;have cs:(0:Int)<=(k:Int):=ao9;obtain⟨j,hj⟩:=Ge T.js k (by have:=hm.out;omega);obtain⟨g,rfl,bx⟩:=aj k j hj;have bR:=(h.ab.lt g (by rw[bg.out];rfl)).2;have cj:=(Ag hH.low bR).trans bx;have aG:=Ai hj;obtain⟨jb,x⟩:=j;have r:∀W,BW w.heap.size w W->Bc W jb x:=λW hW=>Ae hW (h.box _ aG) (Ab (h.box _ aG));have bl:∀W,BW w.heap.size w W->Np W T.az x:=λW hW=>(h.low hW).ok _ aG;have bV:=bS _ aG;have bY:=bX _ aG;have aL:T.pl.ab.take (k+1)=T.pl.ab.take k++[x.pl]:=Je (by simp[Tv.pl,hj]);have aY:=Axu (T.pl.ab.take k) x.pl;have aX:=Axv (T.pl.ab.take k) x.pl;rw[<-aL]at aY aX;have aC:=r _ hH.low;have cc:=Bk aC 14 (G O x.pl.lf.st) rfl;have kl:=λW=>Q8 x.pl.lf.st W;obtain⟨st,an⟩:=Ex (x.pl.lf.st);obtain⟨q,hq⟩:=Ex (dp x.pl.lf.st);have bU:x.pl.live=q:=hq.symm;rw[<-hq]at kl;rw[<-an]at kl cc;rw[bU]at aY aX;replace⟨hj,bx,bR,aG,r,bl,bV,bY⟩:=H8 hj bx bR aG r bl bV bY;replace⟨aL,aY,aX,aC,kl,an,hq,bU⟩:=H8 aL aY aX aC kl an hq bU;replace⟨aW,aM⟩:=H2 aW aM
   cases q with
   | false=>
    have i:Hid (oc w (Dx (T.pl.ab.take (k+1))) (J bs hn hc) (J b2 un uc) hs wr):=Hh (by have:=aY.out;simp at this;rw[this];exact hH.out);have aS:Hid (hs.map Pl.Ax.er=(Ie (T.pl.ab.take (k+1))).map M0):=Hh (by have:=aX.out;simp at this;rw[this];exact hE.out);go_wp2_with (go_at_call 131;(with_reducible refine(kl.out _).mono ?_);rintro e w1 ⟨rfl,rfl⟩);go_roundw
    case rel=>exact⟨k+1,hs,by go_num,ao9,i,aS⟩
    case measure=>simp[intOf];omega
   | true=>
    go_upto_region 7 with(go_at_call 131;(with_reducible refine(kl.out _).mono ?_);rintro e w1 ⟨rfl,rfl⟩)
    have kn:∀W,BW w1.heap.size w1 W->Calls prog 184 #[Q (Z ⟨jb,0,I⟩)] W λe w'=>e=K (Kr x.pl).val/\BW w1.heap.size w1 w':=λW hW=>by
     have hl:=hH.low.trans (hW.mono hH.low.size);refine(Ala (r _ hl) (bl _ hl)).mono ?_;rintro e w' ⟨h1,h2⟩;exact⟨h1,hW.trans (h2.mono hW.size)⟩
    obtain⟨⟨n0,n1,n2,n3⟩,bk⟩:∃v,v=Kr x.pl:=⟨_,rfl⟩;rw[<-bk]at kn;obtain⟨us,aR⟩:=Ex (x.pl.sp.user);have y1:w1.cell? ⟨jb,1,I⟩=Z (Y us):=(by rw[aR];exact Aa aC.out 1);have b6:=Ab aC.out
    have a4:∀u∈([Y us,G O n0,G O n1,G O n2,G O n3]:List VL),u.oneCell'=true:=by intro u hu;simp at hu;rcases hu with rfl|rfl|rfl|rfl|rfl<;>rfl
    have b9:un<=1000:=by
     have:=aM.out;have h2:(Dx (T.pl.ab.take k)).length<=(T.pl.ab.take k).length:=(by unfold Dx;rw[Ar];exact Ob _ _);have h3:=Qk k T.pl.ab;omega
    have bA:=Ff (n:=un) ao9;have bP:(un+1)*48<=140737488355328:=ao9;have a6:Dx (T.pl.ab.take (k+1))=Dx (T.pl.ab.take k)++[⟨us,⟨n0,n1,n2,n3⟩⟩]:=(by have:=aY.out;simp at this;rw[this,aR,bk]);replace⟨kn,bk,aR,a4,b9,bA,bP,a6⟩:=H8 kn bk aR a4 b9 bA bP a6;clear cc cj;go_cut [5] (λv wx=>HoU w (Dx (T.pl.ab.take (k+1))) (J bs hn hc) hs v wx)
    case first=>
     go_region_law (first
      | (go_simp;go_at_call 184;refine(kn _ (by first|exact(Below.refl _ _).drew|exact Below.refl _ _|exact Ba _ _ _)).mono ?_;rintro e w2 ⟨rfl,l⟩;have cB:=(Ag l b6).trans y1;have hA:BW w1.heap.size w1 (w2.alloc (V #[Y us,G O n0,G O n1,G O n2,G O n3] 259)):=l.alloc l.size _;have aK:=((hH.drop hA).ji).at_ aM.symm;have aH:=Adi w2 #[Y us,G O n0,G O n1,G O n2,G O n3] 259;have o:=Ay hH.low.size hA.size
         replace⟨l,hA,aK,aH,o⟩:=H5 l hA aK aH o)
      | (refine Uv (by rfl) _ _ _ (by rfl) w.heap.size 259 ca _ 5 48 underlying213 aE.out aN.out ao.out ap.out rfl Axw (J b2 un uc) un _ (by rfl) aK.out ⟨w2.heap.size,0,I⟩ 1 [Y us,G O n0,G O n1,G O n2,G O n3] (by rfl) (by rfl) aH.out a4.out bA.out bP.out o.out ?_;intro g9 b3 w9 aJ al
         replace⟨aJ,al⟩:=H2 aJ al))
     all_goals
      go_wp2_with fail;go_meet
      case rel=>exact⟨⟨_,_,_,rfl⟩,by
       have:=hH.use (u:=⟨us,⟨n0,n1,n2,n3⟩⟩) hA.out al.out (Bf.snoc (cells:=Tz) aJ.out aM.symm);rw[a6.out]
       exact this⟩
    case rest=>
    obtain⟨y,b0⟩:=Ex (wc);rw[<-b0]at hcut;rw[<-b0];clear b0;obtain⟨cp,cA,cy,rfl⟩:=hcut.ex;have i:=hcut.at_;obtain⟨_,_,_,e1,bw,_⟩:=i.ji.len;injection e1 with e1 e2 e3;subst e2;clear e1 e3;have s:=r _ i.low;obtain⟨⟨da,db,dc,dd⟩,aD⟩:∃d,d=x.pl.sp.df:=⟨_,rfl⟩;have z4:y.cell? ⟨jb,4,I⟩=Z (G O da):=(by rw[Aa s 4,show da=x.pl.sp.df.a by rw[<-aD]];rfl);have z5:y.cell? ⟨jb,5,I⟩=Z (G O db):=(by rw[Aa s 5,show db=x.pl.sp.df.b by rw[<-aD]];rfl);have z6:y.cell? ⟨jb,6,I⟩=Z (G O dc):=(by rw[Aa s 6,show dc=x.pl.sp.df.c by rw[<-aD]];rfl);have z7:y.cell? ⟨jb,7,I⟩=Z (G O dd):=(by rw[Aa s 7,show dd=x.pl.sp.df.d by rw[<-aD]];rfl);have f:=Ab s
    have kt:∀W,BW y.heap.size y W->Calls prog 132 #[Q (Z ⟨jb,0,I⟩)] W λe w'=>e=K (G O (Lg x.pl))/\BW y.heap.size y w'/\BW W.heap.size W w':=λW hW=>by
     have hl:=i.low.trans (hW.mono i.low.size);refine(Ak9 (r _ hl) bV.out).mono ?_;rintro e w' ⟨h1,n,rfl⟩;exact⟨h1,hW.trans ((Ba _ W n).mono hW.size),Ba _ W n⟩
    have ac:=(Below.refl y.heap.size y).alloc Ln (V #[J I 0 0,G O 0,G O 0,G O 0,G O 0,G O 0] 261);have ck:=(Ag ac f).trans z4;have cl:=(Ag ac f).trans z5;have cm:=(Ag ac f).trans z6;have cn:=(Ag ac f).trans z7;obtain⟨lt,bi⟩:=Ex (Lg x.pl);rw[<-bi]at kt;clear hcut y1 b6;replace⟨i,s,aD,kt,bi,bw,ac⟩:=H7 i s aD kt bi bw ac;go_upto_region 8 with fail;go_cut [8] (λv wx=>HoB y ⟨I,0,0,[],⟨da,db,dc,dd⟩,lt⟩ v wx)
    case first=>
     go_region_law (first
      | (go_simp;go_at_call 132;refine(kt _ (by first|exact(Below.refl _ _).drew|exact Below.refl _ _|exact Bn.drew|exact Ba _ _ _)).mono ?_;rintro e w2 ⟨rfl,l,bM⟩
         (try have z:=Ae bM (b:=y.heap.size) (x:=V #[J I 0 0,G O 0,G O 0,G O 0,G O 0,G O 0] 261 (0,0)) (Ah y _) as9)
         (try have m0:=Aa z 0)
         (try have m1:=Aa z 1)
         (try have m2:=Aa z 2)
         (try have m3:=Aa z 3)
         (try have m4:=Aa z 4)
         (try have m5:=Aa z 5)
         (try have mf:=Af z)
         (try simp at m0 m1 m2 m3 m4 m5)
         (try replace z:=Hh z)
         replace bM:=Hh bM;have cC:=(Ag l f).trans z4;have cE:=(Ag l f).trans z5;have cG:=(Ag l f).trans z6;have cI:=(Ag l f).trans z7;have aU:=l.alloc l.size (V #[J I 0 0,G O 0,G O 0,G O 0,G O 0,G O 0] 261);have cD:=(Ag aU f).trans z4;have cF:=(Ag aU f).trans z5;have cH:=(Ag aU f).trans z6;have cJ:=(Ag aU f).trans z7;replace aU:=Hh aU
         replace l:=Hh l))
     all_goals
      go_wp2_with fail;go_meet
      case rel=>
       first
        | exact⟨⟨_,rfl,l.size,Ah _ _⟩,l.alloc l.size _⟩
        | exact⟨⟨_,rfl,Nat.le_refl _,Axx z.out _ _ _ _ _ _⟩,Cc (Cc (Cc (Cc (Cc (Cc l.out Ln) Ln) Ln) Ln) Ln) Ln⟩
    case rest=>
    obtain⟨⟨hb,rfl,bN,bf⟩,am⟩:=hcut;have bG:=i.drop am;have a2:=r _ bG.low;obtain⟨po,bo⟩:=Ex (x.po);obtain⟨pn,af⟩:=Ex (x.pn);have ci:wc.cell? ⟨jb,21,I⟩=Z (J po pn x.pc):=(by rw[bo,af];exact Aa a2 21);have aQ:∀W,BW y.heap.size y W->Bv W x:=λW hW=>(bl W (i.low.trans (hW.mono i.low.size))).parts;have a5:x.pl.parts.length=pn:=(by rw[af];exact Ji (aQ _ am));have co:pn<=1000:=(by rw[af];exact bY.out);have bI:=Al.nil wc y.heap.size;have b5:=Ab bf;clear z4 z5 z6 z7 ck cl cm cn f;replace⟨bN,bf,am,bG,a2,bo,af,aQ⟩:=H8 bN bf am bG a2 bo af aQ;replace⟨a5,bI,b5⟩:=H3 a5 bI b5;go_wp2_with fail;clear ci;go_loopw [10,52] (λ_ iv wr=>∃(n:Nat) (go:Option Addr) (gn gc:Nat),iv=G O n/\n<=pn/\Hid (BW y.heap.size y wr)/\Hid (wr.heap[hb]?=Z (V (⟨go,gn,gc,[],⟨da,db,dc,dd⟩,lt⟩:Pl.Ax).cells 261 (0,0)))/\Hid (Al wr y.heap.size (J go gn gc) (L1 x.pl n))) (λ_ iv _=>pn-(intOf iv).toNat)
    case atStart=>exact⟨0,I,0,0,rfl,As _,am,bf,bI⟩
    case round=>
     obtain⟨n,go,gn,gc,rfl,cx,a7,aB,hI⟩:=hrel;have aV:=hI.zp;by_cases cf:n<pn
     .have cg:(n:Int)<pn:=ao9;have cw:(0:Int)<=(n:Int):=ao9;obtain⟨pb,p,e,hp,c0,c1⟩:=Pw (aQ _ a7.out) (k:=n) (by rw[<-af.out];exact cf);have e2:=bo.trans e;subst e2;obtain⟨p1,p2⟩:=p;simp only at c0 c1;have an:=Axy hp;simp only at an;obtain⟨W3,bd⟩:=Ex (wr.alloc (V #[G O p1,G O p2] 65));obtain⟨xb,b1⟩:=Ex (wr.heap.size);have a1:BW wr.heap.size wr W3:=(by rw[bd];exact Bn);have bv:W3.heap[xb]?=Z (V #[G O p1,G O p2] 65 (0,0)):=(by rw[bd,b1];exact Ah _ _);have x0:=Bk bv 0 (G O p1) rfl;have x1:=Bk bv 1 (G O p2) rfl;have ad:=Ae a1 aB.out (Ab aB.out);have bb:=hI.mod (Mod.ag (S:=λ_=>False) a1) (λ_ _ c=>c);have a0:=a7.trans (a1.mono a7.size);replace⟨hp,e,an,a1,bv,ad,bb,a0⟩:=H8 hp e an a1 bv ad bb a0;replace aV:=Hh aV;go_upto_region 12 with fail;rw[<-bd,<-b1];clear bd b1 c0 c1;by_cases q2:p2=0
      .subst q2;have t:L1 x.pl (n+1)=L1 x.pl n++[p1]:=(by rw[an.out,Ad rfl]);have m0:=Bk ad.out 0 (J go gn gc) rfl;have hA:=(Below.refl W3.heap.size W3).alloc Ln (V #[G O p1] 3 (0,0));have t7:=bb.mod (Mod.ag (S:=λ_=>False) hA) (λ_ _ c=>c);have t8:(W3.alloc (V #[G O p1] 3 (0,0))).cell? ⟨W3.heap.size,0,I⟩=Z (G O p1):=Aa (Ah _ _) 0;have a8:=a0.trans (hA.mono a0.size);have t9:=a8.size;have aP:=Ae hA ad.out (Ab ad.out);have bO:gn<=1000000000:=(by have:=aV.out;have:=Axz x.pl n;omega);replace⟨t,hA,t7,t8,a8,t9,aP,bO⟩:=H8 t hA t7 t8 a8 t9 aP bO;go_upto_region 14 with(at_builtin;refine M1 rfl _ _ rfl y.heap.size gn _ rfl t7.out aV.symm ⟨W3.heap.size,0,I⟩ 1 rfl p1 t8.out bO.out t9.out ?_;intro g7 aZ w7 h7 be cd;have b7:=Mod.grown (S:=λk=>(Value.slice go gn gc).ownBlock=Z k) be (λk hk=>hk);have aT:=b7.aw aP.out (λe=>Bq t7.row aP.out ad9 e);have k7:=Aa aT 0;have f7:=Af aT 0;simp at k7;replace⟨h7,be,aT⟩:=H3 h7 be aT;clear b7 cd);have bL:=Am aT.out 0 (J (Z ⟨g7,0,I⟩) (gn+1) aZ)
       have h8:=h7.mod (Mod.setCell (S:=λk=>k=hb) w7 hb 0 (J (Z ⟨g7,0,I⟩) (gn+1) aZ) rfl) (λk hk e=>by
        subst e
        exact Bq h7.row aT.out ad9 hk)
       have bB:=a8.grown be.out t9.out (λk hk=>(t7.lt k hk).1);have bC:BW y.heap.size y (w7.setCell ⟨hb,0,I⟩ (J (Z ⟨g7,0,I⟩) (gn+1) aZ)):=Cc bB bN.out;rw[<-t.out]at h8;clear x0 x1 m0;replace⟨bL,h8,bB,bC⟩:=H4 bL h8 bB bC;go_wp2_with fail;go_roundw
       case rel=>exact⟨n+1,_,_,_,by go_num,ao9,bC,Hh (by simpa using bL.out),h8⟩
       case measure=>simp[intOf];omega
      .have t:L1 x.pl (n+1)=L1 x.pl n:=(by rw[an.out,Ac q2,Nf]);have q3:(p2 == (0:Int))=false:=(by simpa using q2);have bc:=bb.out;rw[<-t]at bc;replace⟨t,bc⟩:=H2 t bc;go_wp2_with fail;go_roundw
       case rel=>exact⟨n+1,_,_,_,by go_num,ao9,a0,ad,bc⟩
       case measure=>simp[intOf];omega
     .have cg:¬(n:Int)<pn:=ao9;have bW:L1 x.pl n=Qd x.pl:=(by unfold L1 Qd;rw[Cr (by have:=a5.out;omega)]);have bK:=hI.out;rw[bW]at bK;have q0:=Bk aB.out 0 (J go gn gc) rfl;have q1:=Bk aB.out 1 (G O da) rfl;have q2:=Bk aB.out 2 (G O db) rfl;have q3:=Bk aB.out 3 (G O dc) rfl;have q4:=Bk aB.out 4 (G O dd) rfl;have q5:=Bk aB.out 5 (G O lt) rfl;have a9:=i.drop a7.out;have hA:=(Below.refl wr.heap.size wr).alloc Ln (V #[J go gn gc,G O da,G O db,G O dc,G O dd,G O lt] 261);have ba:=a9.drop hA;have bZ:=ba.aj;have bJ:=(bK.le (B':=w.heap.size) i.low.size).mod (Mod.ag (S:=λ_=>False) hA) (λ_ _ c=>c);have tA:(wr.alloc (V #[J go gn gc,G O da,G O db,G O dc,G O dd,G O lt] 261)).heap[wr.heap.size]?=Z (V (Pl.Ax.cells ⟨go,gn,gc,Qd x.pl,⟨da,db,dc,dd⟩,lt⟩) 261 (0,0)):=Ah _ _
      have aI:∀u∈(Pl.Ax.cells ⟨go,gn,gc,Qd x.pl,⟨da,db,dc,dd⟩,lt⟩).toList,u.oneCell'=true:=by intro u hu;simp at hu;rcases hu with rfl|rfl|rfl|rfl|rfl|rfl<;>rfl
      have o:=ba.low.size
      have a3:hn<=1000000:=by
       have h1:=aW.out;have h2:=Cd List.length hE.out;simp only[Ar]at h2;have h3:(Ie (T.pl.ab.take k)).length<=(T.pl.ab.take k).length:=(by unfold Ie;rw[Ar];exact Ob _ _);have h4:=Qk k T.pl.ab;omega
      clear bK;replace⟨bW,a9,hA,ba,bZ,bJ,tA,aI⟩:=H8 bW a9 hA ba bZ bJ tA aI;replace⟨o,a3,aV⟩:=H3 o a3 aV;go_wp2_with (at_builtin;refine Adj (cells:=Pl.Ax.cells) (sz:=6) rfl _ _ 212 rfl w.heap.size cb _ 64 underlying212 aF.out aO.out av.out aA.out rfl (Gn _) ad9 (λ_=>rfl) (J bs hn hc) rfl hn bZ.out aW.symm wr.heap.size 1 rfl ⟨go,gn,gc,Qd x.pl,⟨da,db,dc,dd⟩,lt⟩ aI.out tA.out a3.out o.out ?_;intro g9 b3 w9 h9 bQ b4;replace⟨h9,bQ,b4⟩:=H3 h9 bQ b4);have bH:=a9.hold hA.out bQ.out h9.out bJ.out
      have bE:(hs++[(⟨go,gn,gc,Qd x.pl,⟨da,db,dc,dd⟩,lt⟩:Pl.Ax)]).map Pl.Ax.er=(Ie (T.pl.ab.take (k+1))).map M0:=by
       have:=aX.out;simp at this;rw[this,C2,C2,hE.out];have e:Pl.Ax.er ⟨go,gn,gc,Qd x.pl,⟨da,db,dc,dd⟩,lt⟩=M0 (Qd x.pl,x.pl.sp.df,Lg x.pl):=(by rw[<-aD.out,<-bi.out];rfl);simp only[It,Sb];rw[e];rfl
      clear q0 q1 q2 q3 q4 q5;replace⟨bH,bE⟩:=H2 bH bE;go_roundw
      case rel=>exact⟨k+1,_,by go_num,ao9,bH,bE⟩
      case measure=>simp[intOf];omega
  .have ce:¬(k:Int)<m:=ao9;have cv:k=m:=ao9;have aL:T.pl.ab.take k=T.pl.ab:=Cr (by have:=bn.out;omega);have i:=hH.out;have aS:=hE.out;rw[aL]at i aS;have am:T.pl.ab.length<=1000:=(by have:=bn.out;omega);replace⟨aW,aM,aL,i,aS,am⟩:=H6 aW aM aL i aS am;go_wp2_with fail;exact Ak (v:=E #[J bs hn hc,J b2 un uc]) (by simp[results,results135,go_sem]) rfl (i.post aS.out am.out)
def A1q:(prog.info? 159).map (λi=>(i.zero,i.size,i.bytes))=Z (Z (.agg #[D false,D false,G O 0]),3,16):=by kernel_rfl
structure T9 (w:WD) (fv:VL) (k:Nat) (ns:VL) (wr:WD):Prop where
 low:BW w.heap.size w wr
 arg:wr.heap[w.heap.size]?=Z (V #[fv] 54 (0,0))
 res:wr.heap[w.heap.size+1]?=Z (V #[J I 0 0,G O 0,G O 0,J I 0 0,J I 0 0,J I 0 0] 59 (0,0))
 tab:wr.heap[w.heap.size+2]?=Z (V #[fv,G O 0,G O (-1),J I 0 0,ns,J I 0 0] 59 (0,0))
 row:Bf Ej 3 159 wr (w.heap.size+3) ns (List.replicate k lr)
def T9.drop {w wr w':WD} {b c:VL} {k:Nat} (h:T9 w b k c wr) (a:BW wr.heap.size wr w'):T9 w b k c w':=
 ⟨h.low.trans (a.mono h.low.size),Ae a h.arg (Ab h.arg),Ae a h.res (Ab h.res),Ae a h.tab (Ab h.tab),h.row.low a⟩
def A1r (fv:VL) (w:WD) (e:Ending) (w':WD):Prop:=∃so n c,e=K (.agg #[fv,G O 0,G O (-1),J I 0 0,J so n c,J I 0 0])/\BW w.heap.size w w'
def A1s (h:Option Addr) (fn g:Nat) (hn:fn<=4096) (w:WD):Calls prog 48 #[.agg #[J h fn g]] w (A1r (J h fn g) w):=by
 obtain⟨W0,y⟩:=Ex (((w.alloc (V #[J h fn g] 54 (0,0))).alloc (V #[J I 0 0,G O 0,G O 0,J I 0 0,J I 0 0,J I 0 0] 59 (0,0))).alloc (V #[J h fn g,G O 0,G O (-1),J I 0 0,J I 0 0,J I 0 0] 59 (0,0)));have t:T9 w (J h fn g) 0 (J I 0 0) W0:=by rw[y];exact⟨(Bn.alloc as9 _).alloc (by simp;omega) _,Aj _ (Aj _ (Ah _ _)),Aj _ (A5 _ _ as9),A5 _ _ as9,Bf.nil _ _ _ _ _⟩
 obtain⟨iN,ac,al,o,p⟩:=B4 A1q;replace⟨t,ac,al,o,p⟩:=H5 t ac al o p;go_enter func48,ntmps48;go_upto_region 2 with fail;rw[<-y];clear y;go_wp2_with fail;go_loopw [4] (λiv wr=>∃(k:Nat) (so:Option Addr) (n c:Nat),iv=G O k/\k<=fn/\Hid (T9 w (J h fn g) k (J so n c) wr)) (λiv _=>fn-(intOf iv).toNat)
 case atStart=>exact⟨0,I,0,0,rfl,As _,t⟩
 case round=>
  obtain⟨k,so,n,c,rfl,hk,b⟩:=hrel;have a0:=Bk b.arg 0 (J h fn g) rfl;by_cases hc:k<fn
  .have an:(k:Int)<fn:=ao9;have av:(0:Int)<=(k:Int):=ao9;have t4:=Bk b.tab 4 (J so n c) rfl;have hA:=(Below.refl wr.heap.size wr).alloc Ln (V #[D false,D false,G O (-1)] 159);have a:=b.drop hA;have aj:=a.row;have af:(wr.alloc (V #[D false,D false,G O (-1)] 159)).heap[wr.heap.size]?=Z (V (Ej lr) 159 (0,0)):=Ah _ _
   have m:∀u∈(Ej lr).toList,u.oneCell'=true:=by intro u hu;simp at hu;rcases hu with rfl|rfl|rfl<;>rfl
   have j:(List.replicate k lr).length=k:=Ud;have ao:k<=1000000:=ao9;have z:w.heap.size+3<=(wr.alloc (V #[D false,D false,G O (-1)] 159)).heap.size:=(by have:=Ab a.tab;omega);have ap:n=k:=by obtain⟨aA,n',c',e,h1,_⟩:=b.row.len;injection e with _ e;omega
   have d:∀s:WD,(wr.alloc (V #[D false,D false,G O (-1)] 159)).grownBy s (Value.slice so n c).ownBlock->s.heap[w.heap.size+2]?=Z (V #[J h fn g,G O 0,G O (-1),J I 0 0,J so n c,J I 0 0] 59 (0,0))/\s.heap[w.heap.size]?=Z (V #[J h fn g] 54 (0,0))/\s.heap[w.heap.size+1]?=Z (V #[J I 0 0,G O 0,G O 0,J I 0 0,J I 0 0,J I 0 0] 59 (0,0)):=λs hg=>by
    have hm:=Mod.grown (S:=λq=>(Value.slice so n c).ownBlock=Z q) hg (λq hq=>hq);exact⟨hm.aw a.tab (Bq a.row.row a.tab ad9),hm.aw a.arg (Bq a.row.row a.arg ad9),hm.aw a.res (Bq a.row.row a.res ad9)⟩
   subst ap;replace⟨hA,a,aj,af,m,j,z,d⟩:=H8 hA a aj af m j z d;go_wp2_with (at_builtin;refine Adj (cells:=Ej) (sz:=3) rfl _ _ 56 rfl (w.heap.size+3) iN _ 16 underlying56 ac.out al.out o.out p.out rfl (Gn _) ad9 (λ_=>rfl) (J so n c) rfl n aj.out j.out wr.heap.size 1 rfl lr m.out af.out ao z.out ?_;intro g9 i s h9 r am;obtain⟨f1,f2,f3⟩:=d s r;have f4:=Aa f1 4;have f5:=Af f1 4;simp at f4;replace⟨h9,r,f1,f2,f3⟩:=H5 h9 r f1 f2 f3;clear am)
   have x:T9 w (J h fn g) (n+1) (J (Z ⟨g9,0,I⟩) (n+1) i) (s.setCell ⟨w.heap.size+2,4,I⟩ (J (Z ⟨g9,0,I⟩) (n+1) i)):=by
    have hm:=Mod.setCell (S:=λq=>q=w.heap.size+2) s (w.heap.size+2) 4 (J (Z ⟨g9,0,I⟩) (n+1) i) rfl;have ad:=(a.low).grown r.out a.low.size (λq hq=>by have:=a.row.lt q hq;omega);refine⟨Cc ad ao9,hm.aw f2.out ao9,hm.aw f3.out ao9,?_,?_⟩
    .rw [Am f1.out];rfl
    .rw [List.replicate_succ']
     exact h9.mod hm (λq hq e=>by
      subst e
      exact Bq h9.row f1.out ad9 hq)
   replace x:=Hh x;go_wp2_with fail;go_roundw
   case rel=>exact⟨n+1,_,_,_,by go_num,ao9,x⟩
   case measure=>simp[intOf];omega
  .have an:¬(k:Int)<fn:=ao9;have t0:=Bk b.tab 0 (J h fn g) rfl;have t1:=Bk b.tab 1 (G O 0) rfl;have t2:=Bk b.tab 2 (G O (-1)) rfl;have t3:=Bk b.tab 3 (J I 0 0) rfl;have t4:=Bk b.tab 4 (J so n c) rfl;have t5:=Bk b.tab 5 (J I 0 0) rfl;have r0:=Aa b.res 0;have r1:=Aa b.res 1;have r2:=Aa b.res 2;have r3:=Aa b.res 3;have r4:=Aa b.res 4;have r5:=Aa b.res 5;simp at r0 r1 r2 r3 r4 r5;have fr:=Af b.res;have l:=b.low
   have f:BW w.heap.size w ((((((wr.setCell ⟨w.heap.size+1,0,I⟩ (J h fn g)).setCell ⟨w.heap.size+1,1,I⟩ (G O 0)).setCell ⟨w.heap.size+1,2,I⟩ (G O (-1))).setCell ⟨w.heap.size+1,3,I⟩ (J I 0 0)).setCell ⟨w.heap.size+1,4,I⟩ (J so n c)).setCell ⟨w.heap.size+1,5,I⟩ (J I 0 0)):=
    Cc (Cc (Cc (Cc (Cc (Cc l ao9) ao9) ao9) ao9) ao9) ao9
   replace⟨l,f⟩:=H2 l f;go_wp2_with fail;exact Ak (v:=.agg #[J h fn g,G O 0,G O (-1),J I 0 0,J so n c,J I 0 0]) (by simp[results,results48,go_sem,r0,r1,r2,r3,r4,r5]) rfl ⟨so,n,c,rfl,f.out⟩
