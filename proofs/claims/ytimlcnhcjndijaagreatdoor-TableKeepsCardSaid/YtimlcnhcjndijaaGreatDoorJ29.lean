/- Parts of a proof. No condition. -/
import Derived.Test.YtimlcnhcjndijaaGreatDoorJ25
import Derived.Test.YtimlcnhcjndijaaGreatDoorJ27
import Derived.Test.YtimlcnhcjndijaaGreatDoorJ28
set_option linter.all false
set_option maxRecDepth 100000
set_option maxHeartbeats 6400000
namespace Go.Proofs.YtimlcnhcjndijaaGreatDoor
open Option renaming none->I,some->O
open Value renaming slice->V,int->Z,string->D,tuple->E,pointer->K,bool->Q
open Obj renaming cells->J
open IntKind renaming i64->G
open Ending renaming returned->Y
open Go renaming World->WD,Value->VL
open Go.RowKit renaming Below->BW
open Go.Proofs.Tryz
section
open Go.RowKit Go.Maps Go.Lib
structure Bc {α:Type} (cells:α->Array VL) (sz:Nat) (Ty:TypeId) (w:WD) (B:Nat) (v:VL) (xs:List α):Prop where
 row:w.ownsRow B Ty sz v xs.length (Aw cells xs)
variable {α:Type} {cells:α->Array VL} {sz B:Nat} {Ty:TypeId} {w w':WD} {v:VL} {xs:List α}
def Bc.nil (cells:α->Array VL) (sz:Nat) (Ty:TypeId) (w:WD) (B:Nat):Bc cells sz Ty w B (V I 0 0) []:=⟨Mr _ _ _ _⟩
def Bc.mod {S:Nat->Prop} (h:Bc cells sz Ty w B v xs) (a:Mod S w w') (b:∀k,v.ownBlock=O k->¬S k):Bc cells sz Ty w' B v xs:=⟨Bd h.row a b⟩
def Bc.low (h:Bc cells sz Ty w B v xs) (a:BW w.heap.size w w'):Bc cells sz Ty w' B v xs:=h.mod (Mod.af (S:=λ_=>False) a) (λ_ _ c=>c)
def Bc.lt (h:Bc cells sz Ty w B v xs):∀k,v.ownBlock=O k->B<=k/\k<w.heap.size:=λk a=>h.row.lt k a
def Bc.len (h:Bc cells sz Ty w B v xs):∃so n c,v=V so n c/\n=xs.length/\n<=c:=by
 rcases h.row.2 with⟨rfl,h0⟩|⟨g,cap,a,rfl,_,_,h1,_⟩
 .exact ⟨I,0,0,rfl,h0.symm,Nat.le_refl _⟩
 .exact ⟨_,_,_,rfl,rfl,h1⟩
def Bc.au (h:Bc cells sz Ty w B v xs) {k:Nat} (b:v.ownBlock=O k):∃c,w.heap[k]?=O (J c Ty (0,0)):=by
 obtain⟨c,a,_⟩:=C7 h.row b;exact⟨c,a⟩
def Am.au {l:List Int} (h:Am w B v l) {k:Nat} (b:v.ownBlock=O k):∃c,w.heap[k]?=O (J c 3 (0,0)):=by
 obtain⟨c,a,_⟩:=C7 h.row b;exact⟨c,a⟩
def Am.yk {so:Option Addr} {n c:Nat} {l:List Int} (h:Am w B (V so n c) l):n=l.length:=by
 obtain⟨a,m,b,e,d⟩:=h.len;injection e with _ e;omega
def At.pl {so:Option Addr} {n:Nat} {l:List Int} (h:At w so n l):Pl.At w so n l:=
 ⟨h.len,h.max,λi g=>by
  have d:l[i]?=O (l[i]'(by rw[h.len];exact g)):=A3 _;obtain⟨b,c,e,a,f⟩:=h.cell i _ d;refine⟨b,c,e,a,?_⟩;rw[f]
  simp[Pl.zi,List.getD,d]⟩
def At.yl {so:Option Addr} {n:Nat} {l:List Int} (h:Pl.At w so n l):At w so n l:=
 ⟨h.len,h.max,λi x d=>by
  have g:=(An.1 d).1;obtain⟨b,c,e,a,f⟩:=h.cell i (by rw[<-h.len];exact g);refine⟨b,c,e,a,?_⟩;rw[f]
  simp[Pl.zi,List.getD,d]⟩
def Bc.cell (d:∀x,(cells x).size=sz) {f:Option Addr} {n c:Nat} (h:Bc cells sz Ty w B (V f n c) xs) (i:Nat) (x:α) (m:xs[i]?=O x):∃b a,f=O ⟨b,a,I⟩/\b<w.heap.size/\a=0/\∀j,j<sz->w.cell? ⟨b,a+i*sz+j,I⟩=(cells x)[j]?:=by
 have t:=(An.1 m).1;have l:=h.row;rcases l.2 with⟨e,h0⟩|⟨g,cap,o,e,s,p,r,u,k⟩
 .omega
 .injection e with e1 e2 e3;subst e1 e2 e3;refine⟨g,0,rfl,Ab p,rfl,λj q=>?_⟩
  rw[Db,F0 l (i*sz+j) (by
   have:(i+1)*sz<=xs.length*sz:=T5 _ ao9;rw[Mv]at this
   omega),Gw d xs m q]
def Bc.yp {j:Option Addr} {n c:Nat} {f:List fp} {Ty:TypeId} (h:Bc Tl 5 Ty w B (V j n c) f) (p:f.length<=1000000):Qn w j n f:=by
 obtain⟨so,m,d,e,o,_⟩:=h.len;injection e with e1 e2 e3;refine⟨ao9,ao9,λi x l=>?_⟩;obtain⟨b,g,e,a,_,k⟩:=Bc.cell (sz:=5) (cells:=Tl) (λ_=>rfl) h i x l;exact⟨b,g,e,a,k⟩
def Bc.yq {j:Option Addr} {n c:Nat} {g:List dp} {Ty:TypeId} (h:Bc Rp 7 Ty w B (V j n c) g) (p:g.length<=1000000):Ls w j n g:=by
 obtain⟨so,m,d,e,o,_⟩:=h.len;injection e with e1 e2 e3;refine⟨ao9,ao9,λi x l=>?_⟩;obtain⟨b,f,e,a,_,k⟩:=Bc.cell (sz:=7) (cells:=Rp) (λ_=>rfl) h i x l;exact⟨b,f,e,a,k⟩
def Bc.rows {ok:WD->α->Prop} (f:∀x,(cells x).size=sz) {j:Option Addr} {n c:Nat} (h:Bc cells sz Ty w B (V j n c) xs) (q:xs.length<=1000000) (o:∀x,x∈xs->ok w x):Pl.Nk cells sz ok w j n xs:=by
 obtain⟨so,m,d,e,p,_⟩:=h.len;injection e with e1 e2 e3;refine⟨ao9,ao9,λi x k=>?_⟩;obtain⟨b,g,e,a,_,l⟩:=h.cell f i x k;exact⟨b,g,e,a,l,o x (Ai k)⟩
def Bc.snoc {L:Nat} {y:α} (h:w.ownsRow B Ty sz v (L+1) (Aw cells xs++(cells y).toList)) (a:xs.length=L):Bc cells sz Ty w B v (xs++[y]):=⟨by
 rw[Cn,Ox,Q3,a]
 exact h⟩
def Bc.at_ {L:Nat} (h:Bc cells sz Ty w B v xs) (a:xs.length=L):w.ownsRow B Ty sz v L (Aw cells xs):=by
 rw[<-a];exact h.row
def Adk (w:WD) (cs:Array VL) (T:TypeId):∀j u,cs.toList[j]?=O u->(w.alloc (J cs T)).cell? ((⟨w.heap.size,0,I⟩:Addr).add j)=O u:=Pl.Ac4 w cs T
def Vp {p:Array Oper} {rest:List Oper} {o:Oper} {a:Act} {Q9q:Exit->Act->WD->Prop} (am:o.guard=I) (s x:Operand) (t:TypeId)
  (ho:o.op=.call { callee:=.builtin .append,args:=#[s,x],argTypes:=#[t,t] }) (B:Nat) (i:TypeInfo) (z:VL) (b:Nat) (ht:prog.underlying t=O (.slice Ty)) (hi:prog.info? Ty=O i) (hz:i.zero=O z) (an:i.size=sz) (ad:i.bytes=b) (ao:z.cells.size=sz) (h0:0<sz) (ac:b<=1000)
  (al:∀y,(cells y).size=sz) (v:VL) (hs:a.eval s=v) (L:Nat) (m:Bc cells sz Ty w B v xs) (q:xs.length=L) (k:Nat) (c:Nat) (hx:a.eval x=V (O ⟨k,0,I⟩) 1 c) (y:α) (l:∀u∈(cells y).toList,u.oneCell'=true) {T2:TypeId} {fr:Nat×Nat} (hk:w.heap[k]?=O (J (cells y) T2 fr)) (hL:L<=1000000) (hb:B<=w.heap.size)
  (h:∀g cap w',Bc cells sz Ty w' B (V (O ⟨g,0,I⟩) (L+1) cap) (xs++[y])->w.grownBy w' v.ownBlock->(v.ownBlock=O g\/g=w.heap.size)->wpList prog p Q9q rest (a.put o.dst (V (O ⟨g,0,I⟩) (L+1) cap)) w') :
  wpList prog p Q9q (o :: rest) a w:=by
 subst q;refine R6 w am s x t ho B Ty i z sz b ht hi hz an ad ao h0 v xs.length (Aw cells xs) hs m.row ⟨k,0,I⟩ 1 c (cells y).toList hx (by simp[al y]) ?_ l (If (n:=xs.length) ao9) ?_ hb ?_
 .intro j u hu;show w.cell? ((⟨k,0,I⟩:Addr).add j)=O u;have:=Aa hk j
  have e:(⟨k,0,I⟩:Addr).add j=⟨k,j,I⟩:=by
   cases j with
   | zero=>rfl
   | succ j=>simp[Addr.add]
  rw[e,this];simpa using hu
 .have:(xs.length+1)*b<=1000001*1000:=Nat.mul_le_mul ao9 ac;omega
 .intro v' w' d f _ r;obtain⟨g,cap,rfl⟩:=Joins.ownsRow_form d ao9;refine h g cap w' ⟨?_⟩ f ?_
  .rw [Cn,Ox,Q3];exact d
  .rcases r with e|e
   .exact .inl e.symm
   .simp [Value.ownBlock]at e;exact .inr e
end
section
open Go.RowKit Go.Maps Go.Lib
def Ax9:(prog.info? 261).map (λi=>(i.zero,i.size,i.bytes))=O (O (.agg #[V I 0 0,Z G 0,Z G 0,Z G 0,Z G 0,Z G 0]),6,64):=by kernel_rfl
def Aya:(prog.info? 259).map (λi=>(i.zero,i.size,i.bytes))=O (O (.agg #[D ByteArray.empty,Z G 0,Z G 0,Z G 0,Z G 0]),5,48):=by kernel_rfl
structure oh (w:WD) (us:List fp) (hv uv:VL) (hs:List Pl.Av) (wr:WD):Prop where
 low:BW w.heap.size w wr
 ak:Bc Pl.Av.cells 6 261 wr w.heap.size hv hs
 j4:Bc Tl 5 259 wr w.heap.size uv us
 te:∀h,h∈hs->Am wr w.heap.size (V h.go h.gn h.gc) h.dn
variable {w wr w1 w2:WD} {us:List fp} {hv uv:VL} {hs:List Pl.Av}
def oh.drop (h:oh w us hv uv hs wr) (a:BW wr.heap.size wr w1):oh w us hv uv hs w1:=
 ⟨h.low.trans (a.mono h.low.size),h.ak.low a,h.j4.low a,λx b=>(h.te x b).mod (Mod.af (S:=λ_=>False) a) (λ_ _ c=>c)⟩
def oh.use (h:oh w us hv uv hs wr) (j:BW wr.heap.size wr w1) (f:w1.grownBy w2 uv.ownBlock) {b:VL} {u:fp} (l:Bc Tl 5 259 w2 w.heap.size b (us++[u])):oh w (us++[u]) hv b hs w2:=by
 have h1:=h.drop j;have g:=Mod.grown (S:=λk=>uv.ownBlock=O k) f (λk a=>a);refine⟨h1.low.grown f h1.low.size (λk a=>(h1.j4.lt k a).1),h1.ak.mod g (λk a e=>?_),l,λx i=>(h1.te x i).mod g (λk a e=>?_)⟩
 .obtain ⟨c,d⟩:=h1.j4.au e;exact Bv h1.ak.row d ad9 a
 .obtain ⟨c,d⟩:=h1.j4.au e;exact Bv (h1.te x i).row d ad9 a
def oh.hold (h:oh w us hv uv hs wr) (l:BW wr.heap.size wr w1) (i:w1.grownBy w2 hv.ownBlock) {b:VL} {x:Pl.Av} (m:Bc Pl.Av.cells 6 261 w2 w.heap.size b (hs++[x])) (n:Am w1 w.heap.size (V x.go x.gn x.gc) x.dn):oh w us b uv (hs++[x]) w2:=by
 have h1:=h.drop l;have j:=Mod.grown (S:=λk=>hv.ownBlock=O k) i (λk a=>a);refine⟨h1.low.grown i h1.low.size (λk a=>(h1.ak.lt k a).1),m,h1.j4.mod j (λk a e=>?_),λy d=>?_⟩
 .obtain ⟨c,g⟩:=h1.ak.au e;exact Bv h1.j4.row g ad9 a
 .have f:Am w1 w.heap.size (V y.go y.gn y.gc) y.dn:=by
   rcases Dl.1 d with d|d
   .exact h1.te y d
   .rw [Jj.1 d];exact n
  refine f.mod j (λk a e=>?_);obtain⟨c,g⟩:=h1.ak.au e;exact Bv f.row g ad9 a
def Ayb (l:List Jb) (j:Jb):D1 (l++[j])=D1 l++if j.live=true then[⟨j.sp.user,J8 j⟩]else[]:=by
 unfold D1;rw[Nt,Dk];congr 1
 by_cases q:j.live=true<;>simp[q]
def Ayc (l:List Jb) (j:Jb):Ce (l++[j])=Ce l++if j.live=true then[((j.parts.filter λp=>decide (p.2=0)).map Prod.fst,j.sp.df,En j)]else[]:=by
 unfold Ce;rw[Nt,Dk];congr 1
 by_cases q:j.live=true<;>simp[q]
def Am.pl {B:Nat} {so:Option Addr} {n c:Nat} {l:List Int} (h:Am w B (V so n c) l):Pl.At w so n l/\n<=c:=by
 obtain⟨d,g,f,e,a,b,_⟩:=P5 h;injection e with e1 e2 e3;subst e1 e2 e3;exact⟨b.pl,a⟩
def Adm (w:WD) (fi:List Jb) (e:Ending) (w':WD):Prop:=
 ∃ho hc uo uc hs,e=Y (E #[V ho hs.length hc,V uo (D1 fi).length uc])/\Pl.Y3 w' ho hs.length hs/\hs.map Pl.Av.er=(Ce fi).map Fy/\Qn w' uo (D1 fi).length (D1 fi)/\BW w.heap.size w w'
def oh.post {a:List Jb} {e j:Option Addr} {c g b f:Nat} (h:oh w (D1 a) (V e c b) (V j g f) hs wr) (k:hs.map Pl.Av.er=(Ce a).map Fy) (u:a.length<=1000):Adm w a (Y (E #[V e c b,V j g f])) wr:=by
 have o:(D1 a).length<=a.length:=by unfold D1;rw[Ar];exact Ok _ _
 have n:hs.length<=a.length:=by have:=Cv List.length k;simp only[Ar]at this;rw[this];unfold Ce;rw[Ar];exact Ok _ _
 obtain⟨_,_,_,l,s,_⟩:=h.ak.len;injection l with a1 a2 a3;obtain⟨_,_,_,m,t,_⟩:=h.j4.len;injection m with b1 b2 b3;have d:c=hs.length:=ao9
 have i:g=(D1 a).length:=ao9
 subst d i;refine⟨e,b,j,f,hs,rfl,Bc.rows (cells:=Pl.Av.cells) (sz:=6) (ok:=Pl.Av.ok) (λ_=>rfl) h.ak ao9 (λx p=>?_),k,h.j4.yp ao9,h.low⟩;obtain⟨q,r⟩:=(h.te x p).pl;exact⟨q,r⟩
end
section
open Go.RowKit Go.Maps Go.Lib
def Ayd:0<5:=Iy _
def Aye {W:WD} {b:Nat} {i a1 a2 a3 j k:VL} {T:TypeId} (h:W.heap[b]?=O (J #[i,a1,a2,a3,j,k] T (0,0))) (a c d e f g:VL) :
  ((((((W.setCell ⟨b,0,I⟩ a).setCell ⟨b,1,I⟩ c).setCell ⟨b,2,I⟩ d).setCell ⟨b,3,I⟩ e).setCell ⟨b,4,I⟩ f).setCell ⟨b,5,I⟩ g).heap[b]?=O (J #[a,c,d,e,f,g] T (0,0)):=by
 have l:=Ap (Ap (Ap (Ap (Ap (Ap h 0 a) 1 c) 2 d) 3 e) 4 f) 5 g;simpa using l
def Qo (j:Jb):List Int:=(j.parts.filter λp=>decide (p.2=0)).map Prod.fst
def Mk (j:Jb) (n:Nat):List Int:=((j.parts.take n).filter λp=>decide (p.2=0)).map Prod.fst
def Ayf {j:Jb} {n:Nat} {p:Int×Int} (h:j.parts[n]?=O p):Mk j (n+1)=Mk j n++if p.2=0 then[p.1]else[]:=by
 unfold Mk;rw[Jq h,Nt,Dk];congr 1
 by_cases q:p.2=0<;>simp[q]
def Ayg (j:Jb) (n:Nat):(Mk j n).length<=n:=by
 unfold Mk;rw[Ar];exact A8 (Ok _ _) (Qu _ _)
structure zm (w:WD) (us:List fp) (hv:VL) (hs:List Pl.Av) (v:VL) (wx:WD):Prop where
 ex:∃so n c,v=V so n c
 at_:oh w us hv v hs wx
structure zl (w0:WD) (x:Pl.Av) (v:VL) (wx:WD):Prop where
 ex:∃b,v=K (O ⟨b,0,I⟩)/\w0.heap.size<=b/\wx.heap[b]?=O (J x.cells 261 (0,0))
 low:BW w0.heap.size w0 wx
def Ayh {w:WD} {T:Tv} (h:Ao w T) (bR:∀j,j∈T.js->Adl j.2.pl) (ch:T.js.length<=1000) (bW:∀j,j∈T.js->j.2.pn<=1000) :
  Calls prog 135 #[K (O ⟨T.tb,0,I⟩)] w (Adm w T.pl.ab):=by
 obtain⟨ca,aG,aP,aA,aB⟩:=Cf Ax9;obtain⟨b9,aF,aO,ap,av⟩:=Cf Aya;obtain⟨so,cap,bi,bS,b7,ak⟩:=h.og;have c4:=Bk h.head 4 T.jv rfl;rw[bi]at c4;obtain⟨m,hm⟩:=Ex (T.js.length);obtain⟨tb,ht⟩:=Ex (T.tb);rw[<-hm]at c4 ch bS b7;rw[<-ht]at c4;rw[<-ht];have bn:T.pl.ab.length=m:=by rw[hm];simp[Tv.pl]
 have bE:oh w (D1 (T.pl.ab.take 0)) (V I 0 0) (V I 0 0) [] w:=⟨Below.refl _ _,Bc.nil _ _ _ _ _,Bc.nil _ _ _ _ _,λx hx=>by simp at hx⟩;have bC:([]:List Pl.Av).map Pl.Av.er=(Ce (T.pl.ab.take 0)).map Fy:=rfl;replace⟨h,bR,bW,bi,bS,ak,ht,hm⟩:=H8 h bR bW bi bS ak ht hm;replace⟨bn,bE,bC,aG,aP,aA,aB,aF⟩:=H8 bn bE bC aG aP aA aB aF;replace⟨aO,ap,av⟩:=H3 aO ap av;go_enter func135,ntmps135;go_wp2_with fail;go_loopw [4,5,7,8,10,17,52] (λhv uv _ _ _ iv _ wr=>∃(k:Nat) (hs:List Pl.Av),iv=Z G k/\k<=m/\Hid (oh w (D1 (T.pl.ab.take k)) hv uv hs wr)/\Hid (hs.map Pl.Av.er=(Ce (T.pl.ab.take k)).map Fy)) (λ_ _ _ _ _ iv _ _=>m-(intOf iv).toNat)
 case atStart=>exact⟨0,[],rfl,As _,bE,bC⟩
 case round=>
  obtain⟨k,hs,rfl,cv,hH,hE⟩:=hrel;obtain⟨bp,hn,hc,rfl,aX,_⟩:=hH.ak.len;obtain⟨b1,un,uc,rfl,aN,_⟩:=hH.j4.len;by_cases cs:k<m
  .have cd:(k:Int)<m:=ao9;have ct:(0:Int)<=(k:Int):=ao9;obtain⟨j,hj⟩:=Ge T.js k (by have:=hm.out;omega);obtain⟨g,rfl,bw⟩:=ak k j hj;have bQ:=(h.ab.lt g (by rw[bi.out];rfl)).2;have cj:=(Af hH.low bQ).trans bw;have aH:=Ai hj;obtain⟨jb,x⟩:=j;have r:∀W,BW w.heap.size w W->Bj W jb x:=λW hW=>Ae hW (h.box _ aH) (Ab (h.box _ aH));have bl:∀W,BW w.heap.size w W->O2 W T.ax x:=λW hW=>(h.low hW).ok _ aH;have bU:=bR _ aH;have bX:=bW _ aH;have aM:T.pl.ab.take (k+1)=T.pl.ab.take k++[x.pl]:=Jq (by simp[Tv.pl,hj]);have aZ:=Ayb (T.pl.ab.take k) x.pl;have aY:=Ayc (T.pl.ab.take k) x.pl;rw[<-aM]at aZ aY;have aD:=r _ hH.low;have cb:=Bk aD 14 (Z G x.pl.lf.st) rfl;have kl:=λW=>Ra x.pl.lf.st W;obtain⟨st,ao⟩:=Ex (x.pl.lf.st);obtain⟨q,hq⟩:=Ex (cu x.pl.lf.st);have bT:x.pl.live=q:=hq.symm;rw[<-hq]at kl;rw[<-ao]at kl cb;rw[bT]at aZ aY;replace⟨hj,bw,bQ,aH,r,bl,bU,bX⟩:=H8 hj bw bQ aH r bl bU bX;replace⟨aM,aZ,aY,aD,kl,ao,hq,bT⟩:=H8 aM aZ aY aD kl ao hq bT;replace⟨aX,aN⟩:=H2 aX aN
   cases q with
   | false=>
    have i:Hid (oh w (D1 (T.pl.ab.take (k+1))) (V bp hn hc) (V b1 un uc) hs wr):=Hh (by have:=aZ.out;simp at this;rw[this];exact hH.out);have aT:Hid (hs.map Pl.Av.er=(Ce (T.pl.ab.take (k+1))).map Fy):=Hh (by have:=aY.out;simp at this;rw[this];exact hE.out);go_wp2_with (go_at_call 131;(with_reducible refine(kl.out _).mono ?_);rintro e w1 ⟨rfl,rfl⟩);go_roundw
    case rel=>exact⟨k+1,hs,by go_num,ao9,i,aT⟩
    case measure=>simp[intOf];omega
   | true=>
    go_upto_region 7 with(go_at_call 131;(with_reducible refine(kl.out _).mono ?_);rintro e w1 ⟨rfl,rfl⟩)
    have kn:∀W,BW w1.heap.size w1 W->Calls prog 184 #[K (O ⟨jb,0,I⟩)] W λe w'=>e=Y (J8 x.pl).val/\BW w1.heap.size w1 w':=λW hW=>by
     have hl:=hH.low.trans (hW.mono hH.low.size);refine(Ak8 (r _ hl) (bl _ hl)).mono ?_;rintro e w' ⟨h1,h2⟩;exact⟨h1,hW.trans (h2.mono hW.size)⟩
    obtain⟨⟨n0,n1,n2,n3⟩,bk⟩:∃v,v=J8 x.pl:=⟨_,rfl⟩;rw[<-bk]at kn;obtain⟨us,aS⟩:=Ex (x.pl.sp.user);have y1:w1.cell? ⟨jb,1,I⟩=O (D us):=(by rw[aS];exact Aa aD.out 1);have b5:=Ab aD.out
    have a5:∀u∈([D us,Z G n0,Z G n1,Z G n2,Z G n3]:List VL),u.oneCell'=true:=by intro u hu;simp at hu;rcases hu with rfl|rfl|rfl|rfl|rfl<;>rfl
    have b8:un<=1000:=by
     have:=aN.out;have h2:(D1 (T.pl.ab.take k)).length<=(T.pl.ab.take k).length:=(by unfold D1;rw[Ar];exact Ok _ _);have h3:=Qu k T.pl.ab;omega
    have bx:=If (n:=un) ao9;have bO:(un+1)*48<=140737488355328:=ao9;have a7:D1 (T.pl.ab.take (k+1))=D1 (T.pl.ab.take k)++[⟨us,⟨n0,n1,n2,n3⟩⟩]:=(by have:=aZ.out;simp at this;rw[this,aS,bk]);replace⟨kn,bk,aS,a5,b8,bx,bO,a7⟩:=H8 kn bk aS a5 b8 bx bO a7;clear cb cj;go_cut [5] (λv wx=>zm w (D1 (T.pl.ab.take (k+1))) (V bp hn hc) hs v wx)
    case first=>
     go_region_law (first
      | (go_simp;go_at_call 184;refine(kn _ (by first|exact(Below.refl _ _).drew|exact Below.refl _ _|exact A4 _ _ _)).mono ?_;rintro e w2 ⟨rfl,l⟩;have cC:=(Af l b5).trans y1;have hA:BW w1.heap.size w1 (w2.alloc (J #[D us,Z G n0,Z G n1,Z G n2,Z G n3] 259)):=l.alloc l.size _;have aL:=((hH.drop hA).j4).at_ aN.symm;have aI:=Adk w2 #[D us,Z G n0,Z G n1,Z G n2,Z G n3] 259;have o:=A8 hH.low.size hA.size
         replace⟨l,hA,aL,aI,o⟩:=H5 l hA aL aI o)
      | (refine Uo (by rfl) _ _ _ (by rfl) w.heap.size 259 b9 _ 5 48 underlying213 aF.out aO.out ap.out av.out rfl Ayd (V b1 un uc) un _ (by rfl) aL.out ⟨w2.heap.size,0,I⟩ 1 [D us,Z G n0,Z G n1,Z G n2,Z G n3] (by rfl) (by rfl) aI.out a5.out bx.out bO.out o.out ?_;intro g9 b2 w9 aK am
         replace⟨aK,am⟩:=H2 aK am))
     all_goals
      go_wp2_with fail;go_meet
      case rel=>exact⟨⟨_,_,_,rfl⟩,by
       have:=hH.use (u:=⟨us,⟨n0,n1,n2,n3⟩⟩) hA.out am.out (Bc.snoc (cells:=Tl) aK.out aN.symm);rw[a7.out]
       exact this⟩
    case rest=>
    obtain⟨y,bZ⟩:=Ex (wc);rw[<-bZ]at hcut;rw[<-bZ];clear bZ;obtain⟨cr,cB,cA,rfl⟩:=hcut.ex;have i:=hcut.at_;obtain⟨_,_,_,e1,bv,_⟩:=i.j4.len;injection e1 with e1 e2 e3;subst e2;clear e1 e3;have s:=r _ i.low;obtain⟨⟨da,db,dc,dd⟩,aE⟩:∃d,d=x.pl.sp.df:=⟨_,rfl⟩;have z4:y.cell? ⟨jb,4,I⟩=O (Z G da):=(by rw[Aa s 4,show da=x.pl.sp.df.a by rw[<-aE]];rfl);have z5:y.cell? ⟨jb,5,I⟩=O (Z G db):=(by rw[Aa s 5,show db=x.pl.sp.df.b by rw[<-aE]];rfl);have z6:y.cell? ⟨jb,6,I⟩=O (Z G dc):=(by rw[Aa s 6,show dc=x.pl.sp.df.c by rw[<-aE]];rfl);have z7:y.cell? ⟨jb,7,I⟩=O (Z G dd):=(by rw[Aa s 7,show dd=x.pl.sp.df.d by rw[<-aE]];rfl);have f:=Ab s
    have kt:∀W,BW y.heap.size y W->Calls prog 132 #[K (O ⟨jb,0,I⟩)] W λe w'=>e=Y (Z G (En x.pl))/\BW y.heap.size y w'/\BW W.heap.size W w':=λW hW=>by
     have hl:=i.low.trans (hW.mono i.low.size);refine(Ak7 (r _ hl) bU.out).mono ?_;rintro e w' ⟨h1,n,rfl⟩;exact⟨h1,hW.trans ((A4 _ W n).mono hW.size),A4 _ W n⟩
    have ac:=(Below.refl y.heap.size y).alloc Ln (J #[V I 0 0,Z G 0,Z G 0,Z G 0,Z G 0,Z G 0] 261);have ck:=(Af ac f).trans z4;have cl:=(Af ac f).trans z5;have cm:=(Af ac f).trans z6;have co:=(Af ac f).trans z7;obtain⟨lt,bj⟩:=Ex (En x.pl);rw[<-bj]at kt;clear hcut y1 b5;replace⟨i,s,aE,kt,bj,bv,ac⟩:=H7 i s aE kt bj bv ac;go_upto_region 8 with fail;go_cut [8] (λv wx=>zl y ⟨I,0,0,[],⟨da,db,dc,dd⟩,lt⟩ v wx)
    case first=>
     go_region_law (first
      | (go_simp;go_at_call 132;refine(kt _ (by first|exact(Below.refl _ _).drew|exact Below.refl _ _|exact Bn.drew|exact A4 _ _ _)).mono ?_;rintro e w2 ⟨rfl,l,bL⟩
         (try have z:=Ae bL (b:=y.heap.size) (x:=J #[V I 0 0,Z G 0,Z G 0,Z G 0,Z G 0,Z G 0] 261 (0,0)) (Ah y _) as9)
         (try have m0:=Aa z 0)
         (try have m1:=Aa z 1)
         (try have m2:=Aa z 2)
         (try have m3:=Aa z 3)
         (try have m4:=Aa z 4)
         (try have m5:=Aa z 5)
         (try have mf:=Ag z)
         (try simp at m0 m1 m2 m3 m4 m5)
         (try replace z:=Hh z)
         replace bL:=Hh bL;have cD:=(Af l f).trans z4;have cF:=(Af l f).trans z5;have cH:=(Af l f).trans z6;have cJ:=(Af l f).trans z7;have aV:=l.alloc l.size (J #[V I 0 0,Z G 0,Z G 0,Z G 0,Z G 0,Z G 0] 261);have cE:=(Af aV f).trans z4;have cG:=(Af aV f).trans z5;have cI:=(Af aV f).trans z6;have cK:=(Af aV f).trans z7;replace aV:=Hh aV
         replace l:=Hh l))
     all_goals
      go_wp2_with fail;go_meet
      case rel=>
       first
        | exact⟨⟨_,rfl,l.size,Ah _ _⟩,l.alloc l.size _⟩
        | exact⟨⟨_,rfl,Nat.le_refl _,Aye z.out _ _ _ _ _ _⟩,Cr (Cr (Cr (Cr (Cr (Cr l.out Ln) Ln) Ln) Ln) Ln) Ln⟩
    case rest=>
    obtain⟨⟨hb,rfl,bM,bg⟩,an⟩:=hcut;have bF:=i.drop an;have a3:=r _ bF.low;obtain⟨po,bo⟩:=Ex (x.po);obtain⟨pn,al⟩:=Ex (x.pn);have ci:wc.cell? ⟨jb,21,I⟩=O (V po pn x.pc):=(by rw[bo,al];exact Aa a3 21);have aR:∀W,BW y.heap.size y W->Ca W x:=λW hW=>(bl W (i.low.trans (hW.mono i.low.size))).parts;have a6:x.pl.parts.length=pn:=(by rw[al];exact Ks (aR _ an));have cp:pn<=1000:=(by rw[al];exact bX.out);have bH:=Am.nil wc y.heap.size;have b4:=Ab bg;clear z4 z5 z6 z7 ck cl cm co f;replace⟨bM,bg,an,bF,a3,bo,al,aR⟩:=H8 bM bg an bF a3 bo al aR;replace⟨a6,bH,b4⟩:=H3 a6 bH b4;go_wp2_with fail;clear ci;go_loopw [10,52] (λ_ iv wr=>∃(n:Nat) (go:Option Addr) (gn gc:Nat),iv=Z G n/\n<=pn/\Hid (BW y.heap.size y wr)/\Hid (wr.heap[hb]?=O (J (⟨go,gn,gc,[],⟨da,db,dc,dd⟩,lt⟩:Pl.Av).cells 261 (0,0)))/\Hid (Am wr y.heap.size (V go gn gc) (Mk x.pl n))) (λ_ iv _=>pn-(intOf iv).toNat)
    case atStart=>exact⟨0,I,0,0,rfl,As _,an,bg,bH⟩
    case round=>
     obtain⟨n,go,gn,gc,rfl,cy,a8,aC,hI⟩:=hrel;have aW:=hI.yk;by_cases ce:n<pn
     .have cf:(n:Int)<pn:=ao9;have cx:(0:Int)<=(n:Int):=ao9;obtain⟨pb,p,e,hp,c0,c1⟩:=Rd (aR _ a8.out) (k:=n) (by rw[<-al.out];exact ce);have e2:=bo.trans e;subst e2;obtain⟨p1,p2⟩:=p;simp only at c0 c1;have ao:=Ayf hp;simp only at ao;obtain⟨W3,be⟩:=Ex (wr.alloc (J #[Z G p1,Z G p2] 65));obtain⟨xb,b0⟩:=Ex (wr.heap.size);have a2:BW wr.heap.size wr W3:=(by rw[be];exact Bn);have bs:W3.heap[xb]?=O (J #[Z G p1,Z G p2] 65 (0,0)):=(by rw[be,b0];exact Ah _ _);have x0:=Bk bs 0 (Z G p1) rfl;have x1:=Bk bs 1 (Z G p2) rfl;have ad:=Ae a2 aC.out (Ab aC.out);have bc:=hI.mod (Mod.af (S:=λ_=>False) a2) (λ_ _ c=>c);have a1:=a8.trans (a2.mono a8.size);replace⟨hp,e,ao,a2,bs,ad,bc,a1⟩:=H8 hp e ao a2 bs ad bc a1;replace aW:=Hh aW;go_upto_region 12 with fail;rw[<-be,<-b0];clear be b0 c0 c1;by_cases q2:p2=0
      .subst q2;have t:Mk x.pl (n+1)=Mk x.pl n++[p1]:=(by rw[ao.out,Ad rfl]);have m0:=Bk ad.out 0 (V go gn gc) rfl;have hA:=(Below.refl W3.heap.size W3).alloc Ln (J #[Z G p1] 3 (0,0));have t7:=bc.mod (Mod.af (S:=λ_=>False) hA) (λ_ _ c=>c);have t8:(W3.alloc (J #[Z G p1] 3 (0,0))).cell? ⟨W3.heap.size,0,I⟩=O (Z G p1):=Aa (Ah _ _) 0;have a9:=a1.trans (hA.mono a1.size);have t9:=a9.size;have aQ:=Ae hA ad.out (Ab ad.out);have bN:gn<=1000000000:=(by have:=aW.out;have:=Ayg x.pl n;omega);replace⟨t,hA,t7,t8,a9,t9,aQ,bN⟩:=H8 t hA t7 t8 a9 t9 aQ bN;go_upto_region 14 with(at_builtin;refine Nm rfl _ _ rfl y.heap.size gn _ rfl t7.out aW.symm ⟨W3.heap.size,0,I⟩ 1 rfl p1 t8.out bN.out t9.out ?_;intro g7 a0 w7 h7 bf cc;have b6:=Mod.grown (S:=λk=>(Value.slice go gn gc).ownBlock=O k) bf (λk hk=>hk);have aU:=b6.au aQ.out (λe=>Bv t7.row aQ.out ad9 e);have k7:=Aa aU 0;have f7:=Ag aU 0;simp at k7;replace⟨h7,bf,aU⟩:=H3 h7 bf aU;clear b6 cc);have bK:=Ap aU.out 0 (V (O ⟨g7,0,I⟩) (gn+1) a0)
       have h8:=h7.mod (Mod.setCell (S:=λk=>k=hb) w7 hb 0 (V (O ⟨g7,0,I⟩) (gn+1) a0) rfl) (λk hk e=>by
        subst e
        exact Bv h7.row aU.out ad9 hk)
       have bA:=a9.grown bf.out t9.out (λk hk=>(t7.lt k hk).1);have bB:BW y.heap.size y (w7.setCell ⟨hb,0,I⟩ (V (O ⟨g7,0,I⟩) (gn+1) a0)):=Cr bA bM.out;rw[<-t.out]at h8;clear x0 x1 m0;replace⟨bK,h8,bA,bB⟩:=H4 bK h8 bA bB;go_wp2_with fail;go_roundw
       case rel=>exact⟨n+1,_,_,_,by go_num,ao9,bB,Hh (by simpa using bK.out),h8⟩
       case measure=>simp[intOf];omega
      .have t:Mk x.pl (n+1)=Mk x.pl n:=(by rw[ao.out,Ac q2,Nv]);have q3:(p2 == (0:Int))=false:=(by simpa using q2);have bd:=bc.out;rw[<-t]at bd;replace⟨t,bd⟩:=H2 t bd;go_wp2_with fail;go_roundw
       case rel=>exact⟨n+1,_,_,_,by go_num,ao9,a1,ad,bd⟩
       case measure=>simp[intOf];omega
     .have cf:¬(n:Int)<pn:=ao9;have bV:Mk x.pl n=Qo x.pl:=(by unfold Mk Qo;rw[C4 (by have:=a6.out;omega)]);have bJ:=hI.out;rw[bV]at bJ;have q0:=Bk aC.out 0 (V go gn gc) rfl;have q1:=Bk aC.out 1 (Z G da) rfl;have q2:=Bk aC.out 2 (Z G db) rfl;have q3:=Bk aC.out 3 (Z G dc) rfl;have q4:=Bk aC.out 4 (Z G dd) rfl;have q5:=Bk aC.out 5 (Z G lt) rfl;have ba:=i.drop a8.out;have hA:=(Below.refl wr.heap.size wr).alloc Ln (J #[V go gn gc,Z G da,Z G db,Z G dc,Z G dd,Z G lt] 261);have bb:=ba.drop hA;have bY:=bb.ak;have bI:=(bJ.le (B':=w.heap.size) i.low.size).mod (Mod.af (S:=λ_=>False) hA) (λ_ _ c=>c);have tA:(wr.alloc (J #[V go gn gc,Z G da,Z G db,Z G dc,Z G dd,Z G lt] 261)).heap[wr.heap.size]?=O (J (Pl.Av.cells ⟨go,gn,gc,Qo x.pl,⟨da,db,dc,dd⟩,lt⟩) 261 (0,0)):=Ah _ _
      have aJ:∀u∈(Pl.Av.cells ⟨go,gn,gc,Qo x.pl,⟨da,db,dc,dd⟩,lt⟩).toList,u.oneCell'=true:=by intro u hu;simp at hu;rcases hu with rfl|rfl|rfl|rfl|rfl|rfl<;>rfl
      have o:=bb.low.size
      have a4:hn<=1000000:=by
       have h1:=aX.out;have h2:=Cv List.length hE.out;simp only[Ar]at h2;have h3:(Ce (T.pl.ab.take k)).length<=(T.pl.ab.take k).length:=(by unfold Ce;rw[Ar];exact Ok _ _);have h4:=Qu k T.pl.ab;omega
      clear bJ;replace⟨bV,ba,hA,bb,bY,bI,tA,aJ⟩:=H8 bV ba hA bb bY bI tA aJ;replace⟨o,a4,aW⟩:=H3 o a4 aW;go_wp2_with (at_builtin;refine Vp (cells:=Pl.Av.cells) (sz:=6) rfl _ _ 212 rfl w.heap.size ca _ 64 underlying212 aG.out aP.out aA.out aB.out rfl (Iy _) ad9 (λ_=>rfl) (V bp hn hc) rfl hn bY.out aX.symm wr.heap.size 1 rfl ⟨go,gn,gc,Qo x.pl,⟨da,db,dc,dd⟩,lt⟩ aJ.out tA.out a4.out o.out ?_;intro g9 b2 w9 h9 bP b3;replace⟨h9,bP,b3⟩:=H3 h9 bP b3);have bG:=ba.hold hA.out bP.out h9.out bI.out
      have bD:(hs++[(⟨go,gn,gc,Qo x.pl,⟨da,db,dc,dd⟩,lt⟩:Pl.Av)]).map Pl.Av.er=(Ce (T.pl.ab.take (k+1))).map Fy:=by
       have:=aY.out;simp at this;rw[this,Dk,Dk,hE.out];have e:Pl.Av.er ⟨go,gn,gc,Qo x.pl,⟨da,db,dc,dd⟩,lt⟩=Fy (Qo x.pl,x.pl.sp.df,En x.pl):=(by rw[<-aE.out,<-bj.out];rfl);simp only[Ko,Uh];rw[e];rfl
      clear q0 q1 q2 q3 q4 q5;replace⟨bG,bD⟩:=H2 bG bD;go_roundw
      case rel=>exact⟨k+1,_,by go_num,ao9,bG,bD⟩
      case measure=>simp[intOf];omega
  .have cd:¬(k:Int)<m:=ao9;have cw:k=m:=ao9;have aM:T.pl.ab.take k=T.pl.ab:=C4 (by have:=bn.out;omega);have i:=hH.out;have aT:=hE.out;rw[aM]at i aT;have an:T.pl.ab.length<=1000:=(by have:=bn.out;omega);replace⟨aX,aN,aM,i,aT,an⟩:=H6 aX aN aM i aT an;go_wp2_with fail;exact Al (v:=E #[V bp hn hc,V b1 un uc]) (by simp[results,results135,go_sem]) rfl (i.post aT.out an.out)
def A11:(prog.info? 159).map (λi=>(i.zero,i.size,i.bytes))=O (O (.agg #[Q false,Q false,Z G 0]),3,16):=by kernel_rfl
structure To (w:WD) (fv:VL) (k:Nat) (ns:VL) (wr:WD):Prop where
 low:BW w.heap.size w wr
 arg:wr.heap[w.heap.size]?=O (J #[fv] 54 (0,0))
 res:wr.heap[w.heap.size+1]?=O (J #[V I 0 0,Z G 0,Z G 0,V I 0 0,V I 0 0,V I 0 0] 59 (0,0))
 tab:wr.heap[w.heap.size+2]?=O (J #[fv,Z G 0,Z G (-1),V I 0 0,ns,V I 0 0] 59 (0,0))
 row:Bc Ez 3 159 wr (w.heap.size+3) ns (List.replicate k mg)
def To.drop {w wr w':WD} {b c:VL} {k:Nat} (h:To w b k c wr) (a:BW wr.heap.size wr w'):To w b k c w':=
 ⟨h.low.trans (a.mono h.low.size),Ae a h.arg (Ab h.arg),Ae a h.res (Ab h.res),Ae a h.tab (Ab h.tab),h.row.low a⟩
def A12 (fv:VL) (w:WD) (e:Ending) (w':WD):Prop:=∃so n c,e=Y (.agg #[fv,Z G 0,Z G (-1),V I 0 0,V so n c,V I 0 0])/\BW w.heap.size w w'
def A13 (h:Option Addr) (fn g:Nat) (hn:fn<=4096) (w:WD):Calls prog 48 #[.agg #[V h fn g]] w (A12 (V h fn g) w):=by
 obtain⟨W0,y⟩:=Ex (((w.alloc (J #[V h fn g] 54 (0,0))).alloc (J #[V I 0 0,Z G 0,Z G 0,V I 0 0,V I 0 0,V I 0 0] 59 (0,0))).alloc (J #[V h fn g,Z G 0,Z G (-1),V I 0 0,V I 0 0,V I 0 0] 59 (0,0)));have t:To w (V h fn g) 0 (V I 0 0) W0:=by rw[y];exact⟨(Bn.alloc as9 _).alloc (by simp;omega) _,Aj _ (Aj _ (Ah _ _)),Aj _ (A6 _ _ as9),A6 _ _ as9,Bc.nil _ _ _ _ _⟩
 obtain⟨iN,ac,am,o,p⟩:=Cf A11;replace⟨t,ac,am,o,p⟩:=H5 t ac am o p;go_enter func48,ntmps48;go_upto_region 2 with fail;rw[<-y];clear y;go_wp2_with fail;go_loopw [4] (λiv wr=>∃(k:Nat) (so:Option Addr) (n c:Nat),iv=Z G k/\k<=fn/\Hid (To w (V h fn g) k (V so n c) wr)) (λiv _=>fn-(intOf iv).toNat)
 case atStart=>exact⟨0,I,0,0,rfl,As _,t⟩
 case round=>
  obtain⟨k,so,n,c,rfl,hk,b⟩:=hrel;have a0:=Bk b.arg 0 (V h fn g) rfl;by_cases hc:k<fn
  .have ao:(k:Int)<fn:=ao9;have aA:(0:Int)<=(k:Int):=ao9;have t4:=Bk b.tab 4 (V so n c) rfl;have hA:=(Below.refl wr.heap.size wr).alloc Ln (J #[Q false,Q false,Z G (-1)] 159);have a:=b.drop hA;have ak:=a.row;have al:(wr.alloc (J #[Q false,Q false,Z G (-1)] 159)).heap[wr.heap.size]?=O (J (Ez mg) 159 (0,0)):=Ah _ _
   have m:∀u∈(Ez mg).toList,u.oneCell'=true:=by intro u hu;simp at hu;rcases hu with rfl|rfl|rfl<;>rfl
   have j:(List.replicate k mg).length=k:=Aal;have ap:k<=1000000:=ao9;have z:w.heap.size+3<=(wr.alloc (J #[Q false,Q false,Z G (-1)] 159)).heap.size:=(by have:=Ab a.tab;omega);have av:n=k:=by obtain⟨aB,n',c',e,h1,_⟩:=b.row.len;injection e with _ e;omega
   have d:∀s:WD,(wr.alloc (J #[Q false,Q false,Z G (-1)] 159)).grownBy s (Value.slice so n c).ownBlock->s.heap[w.heap.size+2]?=O (J #[V h fn g,Z G 0,Z G (-1),V I 0 0,V so n c,V I 0 0] 59 (0,0))/\s.heap[w.heap.size]?=O (J #[V h fn g] 54 (0,0))/\s.heap[w.heap.size+1]?=O (J #[V I 0 0,Z G 0,Z G 0,V I 0 0,V I 0 0,V I 0 0] 59 (0,0)):=λs hg=>by
    have hm:=Mod.grown (S:=λq=>(Value.slice so n c).ownBlock=O q) hg (λq hq=>hq);exact⟨hm.au a.tab (Bv a.row.row a.tab ad9),hm.au a.arg (Bv a.row.row a.arg ad9),hm.au a.res (Bv a.row.row a.res ad9)⟩
   subst av;replace⟨hA,a,ak,al,m,j,z,d⟩:=H8 hA a ak al m j z d;go_wp2_with (at_builtin;refine Vp (cells:=Ez) (sz:=3) rfl _ _ 56 rfl (w.heap.size+3) iN _ 16 underlying56 ac.out am.out o.out p.out rfl (Iy _) ad9 (λ_=>rfl) (V so n c) rfl n ak.out j.out wr.heap.size 1 rfl mg m.out al.out ap z.out ?_;intro g9 i s h9 r an;obtain⟨f1,f2,f3⟩:=d s r;have f4:=Aa f1 4;have f5:=Ag f1 4;simp at f4;replace⟨h9,r,f1,f2,f3⟩:=H5 h9 r f1 f2 f3;clear an)
   have x:To w (V h fn g) (n+1) (V (O ⟨g9,0,I⟩) (n+1) i) (s.setCell ⟨w.heap.size+2,4,I⟩ (V (O ⟨g9,0,I⟩) (n+1) i)):=by
    have hm:=Mod.setCell (S:=λq=>q=w.heap.size+2) s (w.heap.size+2) 4 (V (O ⟨g9,0,I⟩) (n+1) i) rfl;have ad:=(a.low).grown r.out a.low.size (λq hq=>by have:=a.row.lt q hq;omega);refine⟨Cr ad ao9,hm.au f2.out ao9,hm.au f3.out ao9,?_,?_⟩
    .rw [Ap f1.out];rfl
    .rw [List.replicate_succ']
     exact h9.mod hm (λq hq e=>by
      subst e
      exact Bv h9.row f1.out ad9 hq)
   replace x:=Hh x;go_wp2_with fail;go_roundw
   case rel=>exact⟨n+1,_,_,_,by go_num,ao9,x⟩
   case measure=>simp[intOf];omega
  .have ao:¬(k:Int)<fn:=ao9;have t0:=Bk b.tab 0 (V h fn g) rfl;have t1:=Bk b.tab 1 (Z G 0) rfl;have t2:=Bk b.tab 2 (Z G (-1)) rfl;have t3:=Bk b.tab 3 (V I 0 0) rfl;have t4:=Bk b.tab 4 (V so n c) rfl;have t5:=Bk b.tab 5 (V I 0 0) rfl;have r0:=Aa b.res 0;have r1:=Aa b.res 1;have r2:=Aa b.res 2;have r3:=Aa b.res 3;have r4:=Aa b.res 4;have r5:=Aa b.res 5;simp at r0 r1 r2 r3 r4 r5;have fr:=Ag b.res;have l:=b.low
   have f:BW w.heap.size w ((((((wr.setCell ⟨w.heap.size+1,0,I⟩ (V h fn g)).setCell ⟨w.heap.size+1,1,I⟩ (Z G 0)).setCell ⟨w.heap.size+1,2,I⟩ (Z G (-1))).setCell ⟨w.heap.size+1,3,I⟩ (V I 0 0)).setCell ⟨w.heap.size+1,4,I⟩ (V so n c)).setCell ⟨w.heap.size+1,5,I⟩ (V I 0 0)):=
    Cr (Cr (Cr (Cr (Cr (Cr l ao9) ao9) ao9) ao9) ao9) ao9
   replace⟨l,f⟩:=H2 l f;go_wp2_with fail;exact Al (v:=.agg #[V h fn g,Z G 0,Z G (-1),V I 0 0,V so n c,V I 0 0]) (by simp[results,results48,go_sem,r0,r1,r2,r3,r4,r5]) rfl ⟨so,n,c,rfl,f.out⟩
