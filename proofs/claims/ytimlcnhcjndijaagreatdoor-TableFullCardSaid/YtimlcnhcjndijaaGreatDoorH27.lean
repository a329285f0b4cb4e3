/- Parts of a proof. No condition. -/
import Derived.Test.YtimlcnhcjndijaaGreatDoorH24
import Derived.Test.YtimlcnhcjndijaaGreatDoorH26
set_option linter.all false
set_option maxRecDepth 100000
set_option maxHeartbeats 6400000
namespace Go.Proofs.YtimlcnhcjndijaaGreatDoor
open Option renaming none->I,some->O
open Value renaming slice->V,int->Z,string->E,tuple->D,pointer->K
open Obj renaming cells->J
open IntKind renaming i64->G
open Ending renaming returned->Q
open Go renaming World->WD,Value->VL
open Go.RowKit renaming Below->BW
open Go.Proofs.Tryz
section
open Go.RowKit Go.Maps Go.Lib
structure Be {α:Type} (cells:α->Array VL) (sz:Nat) (Ty:TypeId) (w:WD) (B:Nat) (v:VL) (xs:List α):Prop where
 row:w.ownsRow B Ty sz v xs.length (Aq cells xs)
variable {α:Type} {cells:α->Array VL} {sz B:Nat} {Ty:TypeId} {w w':WD} {v:VL} {xs:List α}
def Be.nil (cells:α->Array VL) (sz:Nat) (Ty:TypeId) (w:WD) (B:Nat):Be cells sz Ty w B (V I 0 0) []:=⟨Mu _ _ _ _⟩
def Be.mod {S:Nat->Prop} (h:Be cells sz Ty w B v xs) (a:Mod S w w') (b:∀k,v.ownBlock=O k->¬S k):Be cells sz Ty w' B v xs:=⟨A8 h.row a b⟩
def Be.low (h:Be cells sz Ty w B v xs) (a:BW w.heap.size w w'):Be cells sz Ty w' B v xs:=h.mod (Mod.ag (S:=λ_=>False) a) (λ_ _ c=>c)
def Be.lt (h:Be cells sz Ty w B v xs):∀k,v.ownBlock=O k->B<=k/\k<w.heap.size:=λk a=>h.row.lt k a
def Be.len (h:Be cells sz Ty w B v xs):∃so n c,v=V so n c/\n=xs.length/\n<=c:=by
 rcases h.row.2 with⟨rfl,h0⟩|⟨g,cap,a,rfl,_,_,h1,_⟩
 .exact ⟨I,0,0,rfl,h0.symm,Nat.le_refl _⟩
 .exact ⟨_,_,_,rfl,rfl,h1⟩
def Be.ar (h:Be cells sz Ty w B v xs) {k:Nat} (b:v.ownBlock=O k):∃c,w.heap[k]?=O (J c Ty (0,0)):=by
 obtain⟨c,a,_⟩:=Cq h.row b;exact⟨c,a⟩
def Aj.ar {l:List Int} (h:Aj w B v l) {k:Nat} (b:v.ownBlock=O k):∃c,w.heap[k]?=O (J c 3 (0,0)):=by
 obtain⟨c,a,_⟩:=Cq h.row b;exact⟨c,a⟩
def Aj.yj {so:Option Addr} {n c:Nat} {l:List Int} (h:Aj w B (V so n c) l):n=l.length:=by
 obtain⟨a,m,b,e,d⟩:=h.len;injection e with _ e;omega
def Ao.pl {so:Option Addr} {n:Nat} {l:List Int} (h:Ao w so n l):Pl.Ao w so n l:=
 ⟨h.len,h.max,λi g=>by
  have d:l[i]?=O (l[i]'(by rw[h.len];exact g)):=Az _;obtain⟨b,c,e,a,f⟩:=h.cell i _ d;refine⟨b,c,e,a,?_⟩;rw[f]
  simp[Pl.zi,List.getD,d]⟩
def Ao.yk {so:Option Addr} {n:Nat} {l:List Int} (h:Pl.Ao w so n l):Ao w so n l:=
 ⟨h.len,h.max,λi x d=>by
  have g:=(Ap.1 d).1;obtain⟨b,c,e,a,f⟩:=h.cell i (by rw[<-h.len];exact g);refine⟨b,c,e,a,?_⟩;rw[f]
  simp[Pl.zi,List.getD,d]⟩
def Be.cell (d:∀x,(cells x).size=sz) {f:Option Addr} {n c:Nat} (h:Be cells sz Ty w B (V f n c) xs) (i:Nat) (x:α) (m:xs[i]?=O x):∃b a,f=O ⟨b,a,I⟩/\b<w.heap.size/\a=0/\∀j,j<sz->w.cell? ⟨b,a+i*sz+j,I⟩=(cells x)[j]?:=by
 have t:=(Ap.1 m).1;have l:=h.row;rcases l.2 with⟨e,h0⟩|⟨g,cap,o,e,s,p,r,u,k⟩
 .omega
 .injection e with e1 e2 e3;subst e1 e2 e3;refine⟨g,0,rfl,Ac p,rfl,λj q=>?_⟩
  rw[Dm,Fw l (i*sz+j) (by
   have:(i+1)*sz<=xs.length*sz:=Zk _ ao9;rw[Kx]at this
   omega),I3 d xs m q]
def Be.yp {j:Option Addr} {n c:Nat} {f:List en} {Ty:TypeId} (h:Be Ta 5 Ty w B (V j n c) f) (p:f.length<=1000000):Pp w j n f:=by
 obtain⟨so,m,d,e,o,_⟩:=h.len;injection e with e1 e2 e3;refine⟨ao9,ao9,λi x l=>?_⟩;obtain⟨b,g,e,a,_,k⟩:=Be.cell (sz:=5) (cells:=Ta) (λ_=>rfl) h i x l;exact⟨b,g,e,a,k⟩
def Be.yq {g:Option Addr} {n c:Nat} {ws:List dh} {Ty:TypeId} (h:Be Q4 7 Ty w B (V g n c) ws) (o:ws.length<=1000000):Ko w g n ws:=by
 obtain⟨so,m,d,e,l,_⟩:=h.len;injection e with e1 e2 e3;refine⟨ao9,ao9,λi x k=>?_⟩;obtain⟨b,f,e,a,_,j⟩:=Be.cell (sz:=7) (cells:=Q4) (λ_=>rfl) h i x k;exact⟨b,f,e,a,j⟩
def Be.rows {ok:WD->α->Prop} (f:∀x,(cells x).size=sz) {j:Option Addr} {n c:Nat} (h:Be cells sz Ty w B (V j n c) xs) (q:xs.length<=1000000) (o:∀x,x∈xs->ok w x):Pl.Ml cells sz ok w j n xs:=by
 obtain⟨so,m,d,e,p,_⟩:=h.len;injection e with e1 e2 e3;refine⟨ao9,ao9,λi x k=>?_⟩;obtain⟨b,g,e,a,_,l⟩:=h.cell f i x k;exact⟨b,g,e,a,l,o x (Ai k)⟩
def Be.snoc {L:Nat} {y:α} (h:w.ownsRow B Ty sz v (L+1) (Aq cells xs++(cells y).toList)) (a:xs.length=L):Be cells sz Ty w B v (xs++[y]):=⟨by
 rw[Av,O2,R1,a]
 exact h⟩
def Be.at_ {L:Nat} (h:Be cells sz Ty w B v xs) (a:xs.length=L):w.ownsRow B Ty sz v L (Aq cells xs):=by
 rw[<-a];exact h.row
def Ach (w:WD) (cs:Array VL) (T:TypeId):∀j u,cs.toList[j]?=O u->(w.alloc (J cs T)).cell? ((⟨w.heap.size,0,I⟩:Addr).add j)=O u:=Pl.Ab4 w cs T
def Ajn {p:Array Oper} {rest:List Oper} {o:Oper} {a:Act} {Q9q:Exit->Act->WD->Prop} (al:o.guard=I) (s x:Operand) (t:TypeId)
  (ho:o.op=.call { callee:=.builtin .append,args:=#[s,x],argTypes:=#[t,t] }) (B:Nat) (i:TypeInfo) (z:VL) (b:Nat) (ht:prog.underlying t=O (.slice Ty)) (hi:prog.info? Ty=O i) (hz:i.zero=O z) (am:i.size=sz) (ad:i.bytes=b) (an:z.cells.size=sz) (h0:0<sz) (ac:b<=1000)
  (af:∀y,(cells y).size=sz) (v:VL) (hs:a.eval s=v) (L:Nat) (m:Be cells sz Ty w B v xs) (q:xs.length=L) (k:Nat) (c:Nat) (hx:a.eval x=V (O ⟨k,0,I⟩) 1 c) (y:α) (l:∀u∈(cells y).toList,u.oneCell'=true) {T2:TypeId} {fr:Nat×Nat} (hk:w.heap[k]?=O (J (cells y) T2 fr)) (hL:L<=1000000) (hb:B<=w.heap.size)
  (h:∀g cap w',Be cells sz Ty w' B (V (O ⟨g,0,I⟩) (L+1) cap) (xs++[y])->w.grownBy w' v.ownBlock->(v.ownBlock=O g\/g=w.heap.size)->wpList prog p Q9q rest (a.put o.dst (V (O ⟨g,0,I⟩) (L+1) cap)) w') :
  wpList prog p Q9q (o :: rest) a w:=by
 subst q;refine Ri w al s x t ho B Ty i z sz b ht hi hz am ad an h0 v xs.length (Aq cells xs) hs m.row ⟨k,0,I⟩ 1 c (cells y).toList hx (by simp[af y]) ?_ l (Gh (n:=xs.length) ao9) ?_ hb ?_
 .intro j u hu;show w.cell? ((⟨k,0,I⟩:Addr).add j)=O u;have:=Aa hk j
  have e:(⟨k,0,I⟩:Addr).add j=⟨k,j,I⟩:=by
   cases j with
   | zero=>rfl
   | succ j=>simp[Addr.add]
  rw[e,this];simpa using hu
 .have:(xs.length+1)*b<=1000001*1000:=Nat.mul_le_mul ao9 ac;omega
 .intro v' w' d f _ r;obtain⟨g,cap,rfl⟩:=Joins.ownsRow_form d ao9;refine h g cap w' ⟨?_⟩ f ?_
  .rw [Av,O2,R1];exact d
  .rcases r with e|e
   .exact .inl e.symm
   .simp [Value.ownBlock]at e;exact .inr e
end
section
open Go.RowKit Go.Maps Go.Lib
def Avz:(prog.info? 261).map (λi=>(i.zero,i.size,i.bytes))=O (O (.agg #[V I 0 0,Z G 0,Z G 0,Z G 0,Z G 0,Z G 0]),6,64):=by kernel_rfl
def Av0:(prog.info? 259).map (λi=>(i.zero,i.size,i.bytes))=O (O (.agg #[E ByteArray.empty,Z G 0,Z G 0,Z G 0,Z G 0]),5,48):=by kernel_rfl
structure mw (w:WD) (us:List en) (hv uv:VL) (hs:List Pl.Au) (wr:WD):Prop where
 low:BW w.heap.size w wr
 ak:Be Pl.Au.cells 6 261 wr w.heap.size hv hs
 ja:Be Ta 5 259 wr w.heap.size uv us
 rk:∀h,h∈hs->Aj wr w.heap.size (V h.go h.gn h.gc) h.eh
variable {w wr w1 w2:WD} {us:List en} {hv uv:VL} {hs:List Pl.Au}
def mw.drop (h:mw w us hv uv hs wr) (a:BW wr.heap.size wr w1):mw w us hv uv hs w1:=
 ⟨h.low.trans (a.mono h.low.size),h.ak.low a,h.ja.low a,λx b=>(h.rk x b).mod (Mod.ag (S:=λ_=>False) a) (λ_ _ c=>c)⟩
def mw.use (h:mw w us hv uv hs wr) (j:BW wr.heap.size wr w1) (f:w1.grownBy w2 uv.ownBlock) {b:VL} {u:en} (l:Be Ta 5 259 w2 w.heap.size b (us++[u])):mw w (us++[u]) hv b hs w2:=by
 have h1:=h.drop j;have g:=Mod.grown (S:=λk=>uv.ownBlock=O k) f (λk a=>a);refine⟨h1.low.grown f h1.low.size (λk a=>(h1.ja.lt k a).1),h1.ak.mod g (λk a e=>?_),l,λx i=>(h1.rk x i).mod g (λk a e=>?_)⟩
 .obtain ⟨c,d⟩:=h1.ja.ar e;exact Bx h1.ak.row d ad9 a
 .obtain ⟨c,d⟩:=h1.ja.ar e;exact Bx (h1.rk x i).row d ad9 a
def mw.hold (h:mw w us hv uv hs wr) (l:BW wr.heap.size wr w1) (i:w1.grownBy w2 hv.ownBlock) {b:VL} {x:Pl.Au} (m:Be Pl.Au.cells 6 261 w2 w.heap.size b (hs++[x])) (n:Aj w1 w.heap.size (V x.go x.gn x.gc) x.eh):mw w us b uv (hs++[x]) w2:=by
 have h1:=h.drop l;have j:=Mod.grown (S:=λk=>hv.ownBlock=O k) i (λk a=>a);refine⟨h1.low.grown i h1.low.size (λk a=>(h1.ak.lt k a).1),m,h1.ja.mod j (λk a e=>?_),λy d=>?_⟩
 .obtain ⟨c,g⟩:=h1.ak.ar e;exact Bx h1.ja.row g ad9 a
 .have f:Aj w1 w.heap.size (V y.go y.gn y.gc) y.eh:=by
   rcases C7.1 d with d|d
   .exact h1.rk y d
   .rw [Gc.1 d];exact n
  refine f.mod j (λk a e=>?_);obtain⟨c,g⟩:=h1.ak.ar e;exact Bx f.row g ad9 a
def Av1 (l:List Jb) (j:Jb):Dq (l++[j])=Dq l++if j.live=true then[⟨j.sp.user,Kj j⟩]else[]:=by
 unfold Dq;rw[Ow,Dw];congr 1
 by_cases q:j.live=true<;>simp[q]
def Av2 (l:List Jb) (j:Jb):Gz (l++[j])=Gz l++if j.live=true then[((j.parts.filter λp=>decide (p.2=0)).map Prod.fst,j.sp.df,K6 j)]else[]:=by
 unfold Gz;rw[Ow,Dw];congr 1
 by_cases q:j.live=true<;>simp[q]
def Aj.pl {B:Nat} {so:Option Addr} {n c:Nat} {l:List Int} (h:Aj w B (V so n c) l):Pl.Ao w so n l/\n<=c:=by
 obtain⟨d,g,f,e,a,b,_⟩:=Ob h;injection e with e1 e2 e3;subst e1 e2 e3;exact⟨b.pl,a⟩
def Acj (w:WD) (pls:List Jb) (e:Ending) (w':WD):Prop:=
 ∃ho hc uo uc hs,e=Q (D #[V ho hs.length hc,V uo (Dq pls).length uc])/\Pl.Yf w' ho hs.length hs/\hs.map Pl.Au.er=(Gz pls).map Mo/\Pp w' uo (Dq pls).length (Dq pls)/\BW w.heap.size w w'
def mw.post {a:List Jb} {e j:Option Addr} {c g b f:Nat} (h:mw w (Dq a) (V e c b) (V j g f) hs wr) (k:hs.map Pl.Au.er=(Gz a).map Mo) (u:a.length<=1000):Acj w a (Q (D #[V e c b,V j g f])) wr:=by
 have o:(Dq a).length<=a.length:=by unfold Dq;rw[As];exact N0 _ _
 have n:hs.length<=a.length:=by have:=Ca List.length k;simp only[As]at this;rw[this];unfold Gz;rw[As];exact N0 _ _
 obtain⟨_,_,_,l,s,_⟩:=h.ak.len;injection l with a1 a2 a3;obtain⟨_,_,_,m,t,_⟩:=h.ja.len;injection m with b1 b2 b3;have d:c=hs.length:=ao9
 have i:g=(Dq a).length:=ao9
 subst d i;refine⟨e,b,j,f,hs,rfl,Be.rows (cells:=Pl.Au.cells) (sz:=6) (ok:=Pl.Au.ok) (λ_=>rfl) h.ak ao9 (λx p=>?_),k,h.ja.yp ao9,h.low⟩;obtain⟨q,r⟩:=(h.rk x p).pl;exact⟨q,r⟩
end
section
open Go.RowKit Go.Maps Go.Lib
def Av3:0<5:=Iw _
def Av4 {W:WD} {b:Nat} {i a1 a2 a3 j k:VL} {T:TypeId} (h:W.heap[b]?=O (J #[i,a1,a2,a3,j,k] T (0,0))) (a c d e f g:VL) :
  ((((((W.setCell ⟨b,0,I⟩ a).setCell ⟨b,1,I⟩ c).setCell ⟨b,2,I⟩ d).setCell ⟨b,3,I⟩ e).setCell ⟨b,4,I⟩ f).setCell ⟨b,5,I⟩ g).heap[b]?=O (J #[a,c,d,e,f,g] T (0,0)):=by
 have l:=Am (Am (Am (Am (Am (Am h 0 a) 1 c) 2 d) 3 e) 4 f) 5 g;simpa using l
def Pq (j:Jb):List Int:=(j.parts.filter λp=>decide (p.2=0)).map Prod.fst
def Ll (j:Jb) (n:Nat):List Int:=((j.parts.take n).filter λp=>decide (p.2=0)).map Prod.fst
def Av5 {j:Jb} {n:Nat} {p:Int×Int} (h:j.parts[n]?=O p):Ll j (n+1)=Ll j n++if p.2=0 then[p.1]else[]:=by
 unfold Ll;rw[Lw h,Ow,Dw];congr 1
 by_cases q:p.2=0<;>simp[q]
def Av6 (j:Jb) (n:Nat):(Ll j n).length<=n:=by
 unfold Ll;rw[As];exact Aw (N0 _ _) (Px _ _)
structure zj (w:WD) (us:List en) (hv:VL) (hs:List Pl.Au) (v:VL) (wx:WD):Prop where
 ex:∃so n c,v=V so n c
 at_:mw w us hv v hs wx
structure zh (w0:WD) (x:Pl.Au) (v:VL) (wx:WD):Prop where
 ex:∃b,v=K (O ⟨b,0,I⟩)/\w0.heap.size<=b/\wx.heap[b]?=O (J x.cells 261 (0,0))
 low:BW w0.heap.size w0 wx
def Av7 {w:WD} {T:Tv} (h:Al w T) (bS:∀j,j∈T.js->Aci j.2.pl) (ch:T.js.length<=1000) (bX:∀j,j∈T.js->j.2.pn<=1000) :
  Calls prog 135 #[K (O ⟨T.tb,0,I⟩)] w (Acj w T.pl.ab):=by
 obtain⟨cb,aF,aO,av,aA⟩:=B6 Avz;obtain⟨ca,aE,aN,ao,ap⟩:=B6 Av0;obtain⟨so,cap,bg,bT,b8,ak⟩:=h.mr;have c4:=Bk h.head 4 T.jv rfl;rw[bg]at c4;obtain⟨m,hm⟩:=Ex (T.js.length);obtain⟨tb,ht⟩:=Ex (T.tb);rw[<-hm]at c4 ch bT b8;rw[<-ht]at c4;rw[<-ht];have bn:T.pl.ab.length=m:=by rw[hm];simp[Tv.pl]
 have bF:mw w (Dq (T.pl.ab.take 0)) (V I 0 0) (V I 0 0) [] w:=⟨Below.refl _ _,Be.nil _ _ _ _ _,Be.nil _ _ _ _ _,λx hx=>by simp at hx⟩;have bD:([]:List Pl.Au).map Pl.Au.er=(Gz (T.pl.ab.take 0)).map Mo:=rfl;replace⟨h,bS,bX,bg,bT,ak,ht,hm⟩:=H8 h bS bX bg bT ak ht hm;replace⟨bn,bF,bD,aF,aO,av,aA,aE⟩:=H8 bn bF bD aF aO av aA aE;replace⟨aN,ao,ap⟩:=H3 aN ao ap;go_enter func135,ntmps135;go_wp2_with fail;go_loopw [4,5,7,8,10,17,52] (λhv uv _ _ _ iv _ wr=>∃(k:Nat) (hs:List Pl.Au),iv=Z G k/\k<=m/\Hid (mw w (Dq (T.pl.ab.take k)) hv uv hs wr)/\Hid (hs.map Pl.Au.er=(Gz (T.pl.ab.take k)).map Mo)) (λ_ _ _ _ _ iv _ _=>m-(intOf iv).toNat)
 case atStart=>exact⟨0,[],rfl,Ar _,bF,bD⟩
 case round=>
  obtain⟨k,hs,rfl,ct,hH,hE⟩:=hrel;obtain⟨bs,hn,hc,rfl,aW,_⟩:=hH.ak.len;obtain⟨b2,un,uc,rfl,aM,_⟩:=hH.ja.len;by_cases cr:k<m
  .have ce:(k:Int)<m:=ao9;have cs:(0:Int)<=(k:Int):=ao9;obtain⟨j,hj⟩:=Ge T.js k (by have:=hm.out;omega);obtain⟨g,rfl,bx⟩:=ak k j hj;have bR:=(h.ab.lt g (by rw[bg.out];rfl)).2;have cj:=(Af hH.low bR).trans bx;have aG:=Ai hj;obtain⟨jb,x⟩:=j;have r:∀W,BW w.heap.size w W->Ba W jb x:=λW hW=>Ae hW (h.box _ aG) (Ac (h.box _ aG));have bl:∀W,BW w.heap.size w W->Nb W T.bh x:=λW hW=>(h.low hW).ok _ aG;have bV:=bS _ aG;have bY:=bX _ aG;have aL:T.pl.ab.take (k+1)=T.pl.ab.take k++[x.pl]:=Lw (by simp[Tv.pl,hj]);have aY:=Av1 (T.pl.ab.take k) x.pl;have aX:=Av2 (T.pl.ab.take k) x.pl;rw[<-aL]at aY aX;have aC:=r _ hH.low;have cc:=Bk aC 14 (Z G x.pl.lf.st) rfl;have kl:=λW=>Qm x.pl.lf.st W;obtain⟨st,an⟩:=Ex (x.pl.lf.st);obtain⟨q,hq⟩:=Ex (di x.pl.lf.st);have bU:x.pl.live=q:=hq.symm;rw[<-hq]at kl;rw[<-an]at kl cc;rw[bU]at aY aX;replace⟨hj,bx,bR,aG,r,bl,bV,bY⟩:=H8 hj bx bR aG r bl bV bY;replace⟨aL,aY,aX,aC,kl,an,hq,bU⟩:=H8 aL aY aX aC kl an hq bU;replace⟨aW,aM⟩:=H2 aW aM
   cases q with
   | false=>
    have i:Hid (mw w (Dq (T.pl.ab.take (k+1))) (V bs hn hc) (V b2 un uc) hs wr):=Hh (by have:=aY.out;simp at this;rw[this];exact hH.out);have aS:Hid (hs.map Pl.Au.er=(Gz (T.pl.ab.take (k+1))).map Mo):=Hh (by have:=aX.out;simp at this;rw[this];exact hE.out);go_wp2_with (go_at_call 131;(with_reducible refine(kl.out _).mono ?_);rintro e w1 ⟨rfl,rfl⟩);go_roundw
    case rel=>exact⟨k+1,hs,by go_num,ao9,i,aS⟩
    case measure=>simp[intOf];omega
   | true=>
    go_upto_region 7 with(go_at_call 131;(with_reducible refine(kl.out _).mono ?_);rintro e w1 ⟨rfl,rfl⟩)
    have kn:∀W,BW w1.heap.size w1 W->Calls prog 184 #[K (O ⟨jb,0,I⟩)] W λe w'=>e=Q (Kj x.pl).val/\BW w1.heap.size w1 w':=λW hW=>by
     have hl:=hH.low.trans (hW.mono hH.low.size);refine(Ajp (r _ hl) (bl _ hl)).mono ?_;rintro e w' ⟨h1,h2⟩;exact⟨h1,hW.trans (h2.mono hW.size)⟩
    obtain⟨⟨n0,n1,n2,n3⟩,bk⟩:∃v,v=Kj x.pl:=⟨_,rfl⟩;rw[<-bk]at kn;obtain⟨us,aR⟩:=Ex (x.pl.sp.user);have y1:w1.cell? ⟨jb,1,I⟩=O (E us):=(by rw[aR];exact Aa aC.out 1);have b6:=Ac aC.out
    have a4:∀u∈([E us,Z G n0,Z G n1,Z G n2,Z G n3]:List VL),u.oneCell'=true:=by intro u hu;simp at hu;rcases hu with rfl|rfl|rfl|rfl|rfl<;>rfl
    have b9:un<=1000:=by
     have:=aM.out;have h2:(Dq (T.pl.ab.take k)).length<=(T.pl.ab.take k).length:=(by unfold Dq;rw[As];exact N0 _ _);have h3:=Px k T.pl.ab;omega
    have bA:=Gh (n:=un) ao9;have bP:(un+1)*48<=140737488355328:=ao9;have a6:Dq (T.pl.ab.take (k+1))=Dq (T.pl.ab.take k)++[⟨us,⟨n0,n1,n2,n3⟩⟩]:=(by have:=aY.out;simp at this;rw[this,aR,bk]);replace⟨kn,bk,aR,a4,b9,bA,bP,a6⟩:=H8 kn bk aR a4 b9 bA bP a6;clear cc cj;go_cut [5] (λv wx=>zj w (Dq (T.pl.ab.take (k+1))) (V bs hn hc) hs v wx)
    case first=>
     go_region_law (first
      | (go_simp;go_at_call 184;refine(kn _ (by first|exact(Below.refl _ _).drew|exact Below.refl _ _|exact A6 _ _ _)).mono ?_;rintro e w2 ⟨rfl,l⟩;have cB:=(Af l b6).trans y1;have hA:BW w1.heap.size w1 (w2.alloc (J #[E us,Z G n0,Z G n1,Z G n2,Z G n3] 259)):=l.alloc l.size _;have aK:=((hH.drop hA).ja).at_ aM.symm;have aH:=Ach w2 #[E us,Z G n0,Z G n1,Z G n2,Z G n3] 259;have o:=Aw hH.low.size hA.size
         replace⟨l,hA,aK,aH,o⟩:=H5 l hA aK aH o)
      | (refine T5 (by rfl) _ _ _ (by rfl) w.heap.size 259 ca _ 5 48 underlying213 aE.out aN.out ao.out ap.out rfl Av3 (V b2 un uc) un _ (by rfl) aK.out ⟨w2.heap.size,0,I⟩ 1 [E us,Z G n0,Z G n1,Z G n2,Z G n3] (by rfl) (by rfl) aH.out a4.out bA.out bP.out o.out ?_;intro g9 b3 w9 aJ al
         replace⟨aJ,al⟩:=H2 aJ al))
     all_goals
      go_wp2_with fail;go_meet
      case rel=>exact⟨⟨_,_,_,rfl⟩,by
       have:=hH.use (u:=⟨us,⟨n0,n1,n2,n3⟩⟩) hA.out al.out (Be.snoc (cells:=Ta) aJ.out aM.symm);rw[a6.out]
       exact this⟩
    case rest=>
    obtain⟨y,b0⟩:=Ex (wc);rw[<-b0]at hcut;rw[<-b0];clear b0;obtain⟨cp,cA,cy,rfl⟩:=hcut.ex;have i:=hcut.at_;obtain⟨_,_,_,e1,bw,_⟩:=i.ja.len;injection e1 with e1 e2 e3;subst e2;clear e1 e3;have s:=r _ i.low;obtain⟨⟨da,db,dc,dd⟩,aD⟩:∃d,d=x.pl.sp.df:=⟨_,rfl⟩;have z4:y.cell? ⟨jb,4,I⟩=O (Z G da):=(by rw[Aa s 4,show da=x.pl.sp.df.a by rw[<-aD]];rfl);have z5:y.cell? ⟨jb,5,I⟩=O (Z G db):=(by rw[Aa s 5,show db=x.pl.sp.df.b by rw[<-aD]];rfl);have z6:y.cell? ⟨jb,6,I⟩=O (Z G dc):=(by rw[Aa s 6,show dc=x.pl.sp.df.c by rw[<-aD]];rfl);have z7:y.cell? ⟨jb,7,I⟩=O (Z G dd):=(by rw[Aa s 7,show dd=x.pl.sp.df.d by rw[<-aD]];rfl);have f:=Ac s
    have kt:∀W,BW y.heap.size y W->Calls prog 132 #[K (O ⟨jb,0,I⟩)] W λe w'=>e=Q (Z G (K6 x.pl))/\BW y.heap.size y w'/\BW W.heap.size W w':=λW hW=>by
     have hl:=i.low.trans (hW.mono i.low.size);refine(Ajo (r _ hl) bV.out).mono ?_;rintro e w' ⟨h1,n,rfl⟩;exact⟨h1,hW.trans ((A6 _ W n).mono hW.size),A6 _ W n⟩
    have ac:=(Below.refl y.heap.size y).alloc Ln (J #[V I 0 0,Z G 0,Z G 0,Z G 0,Z G 0,Z G 0] 261);have ck:=(Af ac f).trans z4;have cl:=(Af ac f).trans z5;have cm:=(Af ac f).trans z6;have cn:=(Af ac f).trans z7;obtain⟨lt,bi⟩:=Ex (K6 x.pl);rw[<-bi]at kt;clear hcut y1 b6;replace⟨i,s,aD,kt,bi,bw,ac⟩:=H7 i s aD kt bi bw ac;go_upto_region 8 with fail;go_cut [8] (λv wx=>zh y ⟨I,0,0,[],⟨da,db,dc,dd⟩,lt⟩ v wx)
    case first=>
     go_region_law (first
      | (go_simp;go_at_call 132;refine(kt _ (by first|exact(Below.refl _ _).drew|exact Below.refl _ _|exact Bn.drew|exact A6 _ _ _)).mono ?_;rintro e w2 ⟨rfl,l,bM⟩
         (try have z:=Ae bM (b:=y.heap.size) (x:=J #[V I 0 0,Z G 0,Z G 0,Z G 0,Z G 0,Z G 0] 261 (0,0)) (Ah y _) as9)
         (try have m0:=Aa z 0)
         (try have m1:=Aa z 1)
         (try have m2:=Aa z 2)
         (try have m3:=Aa z 3)
         (try have m4:=Aa z 4)
         (try have m5:=Aa z 5)
         (try have mf:=Ag z)
         (try simp at m0 m1 m2 m3 m4 m5)
         (try replace z:=Hh z)
         replace bM:=Hh bM;have cC:=(Af l f).trans z4;have cE:=(Af l f).trans z5;have cG:=(Af l f).trans z6;have cI:=(Af l f).trans z7;have aU:=l.alloc l.size (J #[V I 0 0,Z G 0,Z G 0,Z G 0,Z G 0,Z G 0] 261);have cD:=(Af aU f).trans z4;have cF:=(Af aU f).trans z5;have cH:=(Af aU f).trans z6;have cJ:=(Af aU f).trans z7;replace aU:=Hh aU
         replace l:=Hh l))
     all_goals
      go_wp2_with fail;go_meet
      case rel=>
       first
        | exact⟨⟨_,rfl,l.size,Ah _ _⟩,l.alloc l.size _⟩
        | exact⟨⟨_,rfl,Nat.le_refl _,Av4 z.out _ _ _ _ _ _⟩,Db (Db (Db (Db (Db (Db l.out Ln) Ln) Ln) Ln) Ln) Ln⟩
    case rest=>
    obtain⟨⟨hb,rfl,bN,bf⟩,am⟩:=hcut;have bG:=i.drop am;have a2:=r _ bG.low;obtain⟨po,bo⟩:=Ex (x.po);obtain⟨pn,af⟩:=Ex (x.pn);have ci:wc.cell? ⟨jb,21,I⟩=O (V po pn x.pc):=(by rw[bo,af];exact Aa a2 21);have aQ:∀W,BW y.heap.size y W->Bo W x:=λW hW=>(bl W (i.low.trans (hW.mono i.low.size))).parts;have a5:x.pl.parts.length=pn:=(by rw[af];exact I9 (aQ _ am));have co:pn<=1000:=(by rw[af];exact bY.out);have bI:=Aj.nil wc y.heap.size;have b5:=Ac bf;clear z4 z5 z6 z7 ck cl cm cn f;replace⟨bN,bf,am,bG,a2,bo,af,aQ⟩:=H8 bN bf am bG a2 bo af aQ;replace⟨a5,bI,b5⟩:=H3 a5 bI b5;go_wp2_with fail;clear ci;go_loopw [10,52] (λ_ iv wr=>∃(n:Nat) (go:Option Addr) (gn gc:Nat),iv=Z G n/\n<=pn/\Hid (BW y.heap.size y wr)/\Hid (wr.heap[hb]?=O (J (⟨go,gn,gc,[],⟨da,db,dc,dd⟩,lt⟩:Pl.Au).cells 261 (0,0)))/\Hid (Aj wr y.heap.size (V go gn gc) (Ll x.pl n))) (λ_ iv _=>pn-(intOf iv).toNat)
    case atStart=>exact⟨0,I,0,0,rfl,Ar _,am,bf,bI⟩
    case round=>
     obtain⟨n,go,gn,gc,rfl,cx,a7,aB,hI⟩:=hrel;have aV:=hI.yj;by_cases cf:n<pn
     .have cg:(n:Int)<pn:=ao9;have cw:(0:Int)<=(n:Int):=ao9;obtain⟨pb,p,e,hp,c0,c1⟩:=Pb (aQ _ a7.out) (k:=n) (by rw[<-af.out];exact cf);have e2:=bo.trans e;subst e2;obtain⟨p1,p2⟩:=p;simp only at c0 c1;have an:=Av5 hp;simp only at an;obtain⟨W3,bd⟩:=Ex (wr.alloc (J #[Z G p1,Z G p2] 65));obtain⟨xb,b1⟩:=Ex (wr.heap.size);have a1:BW wr.heap.size wr W3:=(by rw[bd];exact Bn);have bv:W3.heap[xb]?=O (J #[Z G p1,Z G p2] 65 (0,0)):=(by rw[bd,b1];exact Ah _ _);have x0:=Bk bv 0 (Z G p1) rfl;have x1:=Bk bv 1 (Z G p2) rfl;have ad:=Ae a1 aB.out (Ac aB.out);have bb:=hI.mod (Mod.ag (S:=λ_=>False) a1) (λ_ _ c=>c);have a0:=a7.trans (a1.mono a7.size);replace⟨hp,e,an,a1,bv,ad,bb,a0⟩:=H8 hp e an a1 bv ad bb a0;replace aV:=Hh aV;go_upto_region 12 with fail;rw[<-bd,<-b1];clear bd b1 c0 c1;by_cases q2:p2=0
      .subst q2;have t:Ll x.pl (n+1)=Ll x.pl n++[p1]:=(by rw[an.out,Ad rfl]);have m0:=Bk ad.out 0 (V go gn gc) rfl;have hA:=(Below.refl W3.heap.size W3).alloc Ln (J #[Z G p1] 3 (0,0));have t7:=bb.mod (Mod.ag (S:=λ_=>False) hA) (λ_ _ c=>c);have t8:(W3.alloc (J #[Z G p1] 3 (0,0))).cell? ⟨W3.heap.size,0,I⟩=O (Z G p1):=Aa (Ah _ _) 0;have a8:=a0.trans (hA.mono a0.size);have t9:=a8.size;have aP:=Ae hA ad.out (Ac ad.out);have bO:gn<=1000000000:=(by have:=aV.out;have:=Av6 x.pl n;omega);replace⟨t,hA,t7,t8,a8,t9,aP,bO⟩:=H8 t hA t7 t8 a8 t9 aP bO;go_upto_region 14 with(at_builtin;refine Mp rfl _ _ rfl y.heap.size gn _ rfl t7.out aV.symm ⟨W3.heap.size,0,I⟩ 1 rfl p1 t8.out bO.out t9.out ?_;intro g7 aZ w7 h7 be cd;have b7:=Mod.grown (S:=λk=>(Value.slice go gn gc).ownBlock=O k) be (λk hk=>hk);have aT:=b7.ar aP.out (λe=>Bx t7.row aP.out ad9 e);have k7:=Aa aT 0;have f7:=Ag aT 0;simp at k7;replace⟨h7,be,aT⟩:=H3 h7 be aT;clear b7 cd);have bL:=Am aT.out 0 (V (O ⟨g7,0,I⟩) (gn+1) aZ)
       have h8:=h7.mod (Mod.setCell (S:=λk=>k=hb) w7 hb 0 (V (O ⟨g7,0,I⟩) (gn+1) aZ) rfl) (λk hk e=>by
        subst e
        exact Bx h7.row aT.out ad9 hk)
       have bB:=a8.grown be.out t9.out (λk hk=>(t7.lt k hk).1);have bC:BW y.heap.size y (w7.setCell ⟨hb,0,I⟩ (V (O ⟨g7,0,I⟩) (gn+1) aZ)):=Db bB bN.out;rw[<-t.out]at h8;clear x0 x1 m0;replace⟨bL,h8,bB,bC⟩:=H4 bL h8 bB bC;go_wp2_with fail;go_roundw
       case rel=>exact⟨n+1,_,_,_,by go_num,ao9,bC,Hh (by simpa using bL.out),h8⟩
       case measure=>simp[intOf];omega
      .have t:Ll x.pl (n+1)=Ll x.pl n:=(by rw[an.out,Ab q2,N3]);have q3:(p2 == (0:Int))=false:=(by simpa using q2);have bc:=bb.out;rw[<-t]at bc;replace⟨t,bc⟩:=H2 t bc;go_wp2_with fail;go_roundw
       case rel=>exact⟨n+1,_,_,_,by go_num,ao9,a0,ad,bc⟩
       case measure=>simp[intOf];omega
     .have cg:¬(n:Int)<pn:=ao9;have bW:Ll x.pl n=Pq x.pl:=(by unfold Ll Pq;rw[Dd (by have:=a5.out;omega)]);have bK:=hI.out;rw[bW]at bK;have q0:=Bk aB.out 0 (V go gn gc) rfl;have q1:=Bk aB.out 1 (Z G da) rfl;have q2:=Bk aB.out 2 (Z G db) rfl;have q3:=Bk aB.out 3 (Z G dc) rfl;have q4:=Bk aB.out 4 (Z G dd) rfl;have q5:=Bk aB.out 5 (Z G lt) rfl;have a9:=i.drop a7.out;have hA:=(Below.refl wr.heap.size wr).alloc Ln (J #[V go gn gc,Z G da,Z G db,Z G dc,Z G dd,Z G lt] 261);have ba:=a9.drop hA;have bZ:=ba.ak;have bJ:=(bK.le (B':=w.heap.size) i.low.size).mod (Mod.ag (S:=λ_=>False) hA) (λ_ _ c=>c);have tA:(wr.alloc (J #[V go gn gc,Z G da,Z G db,Z G dc,Z G dd,Z G lt] 261)).heap[wr.heap.size]?=O (J (Pl.Au.cells ⟨go,gn,gc,Pq x.pl,⟨da,db,dc,dd⟩,lt⟩) 261 (0,0)):=Ah _ _
      have aI:∀u∈(Pl.Au.cells ⟨go,gn,gc,Pq x.pl,⟨da,db,dc,dd⟩,lt⟩).toList,u.oneCell'=true:=by intro u hu;simp at hu;rcases hu with rfl|rfl|rfl|rfl|rfl|rfl<;>rfl
      have o:=ba.low.size
      have a3:hn<=1000000:=by
       have h1:=aW.out;have h2:=Ca List.length hE.out;simp only[As]at h2;have h3:(Gz (T.pl.ab.take k)).length<=(T.pl.ab.take k).length:=(by unfold Gz;rw[As];exact N0 _ _);have h4:=Px k T.pl.ab;omega
      clear bK;replace⟨bW,a9,hA,ba,bZ,bJ,tA,aI⟩:=H8 bW a9 hA ba bZ bJ tA aI;replace⟨o,a3,aV⟩:=H3 o a3 aV;go_wp2_with (at_builtin;refine Ajn (cells:=Pl.Au.cells) (sz:=6) rfl _ _ 212 rfl w.heap.size cb _ 64 underlying212 aF.out aO.out av.out aA.out rfl (Iw _) ad9 (λ_=>rfl) (V bs hn hc) rfl hn bZ.out aW.symm wr.heap.size 1 rfl ⟨go,gn,gc,Pq x.pl,⟨da,db,dc,dd⟩,lt⟩ aI.out tA.out a3.out o.out ?_;intro g9 b3 w9 h9 bQ b4;replace⟨h9,bQ,b4⟩:=H3 h9 bQ b4);have bH:=a9.hold hA.out bQ.out h9.out bJ.out
      have bE:(hs++[(⟨go,gn,gc,Pq x.pl,⟨da,db,dc,dd⟩,lt⟩:Pl.Au)]).map Pl.Au.er=(Gz (T.pl.ab.take (k+1))).map Mo:=by
       have:=aX.out;simp at this;rw[this,Dw,Dw,hE.out];have e:Pl.Au.er ⟨go,gn,gc,Pq x.pl,⟨da,db,dc,dd⟩,lt⟩=Mo (Pq x.pl,x.pl.sp.df,K6 x.pl):=(by rw[<-aD.out,<-bi.out];rfl);simp only[Ic,Rr];rw[e];rfl
      clear q0 q1 q2 q3 q4 q5;replace⟨bH,bE⟩:=H2 bH bE;go_roundw
      case rel=>exact⟨k+1,_,by go_num,ao9,bH,bE⟩
      case measure=>simp[intOf];omega
  .have ce:¬(k:Int)<m:=ao9;have cv:k=m:=ao9;have aL:T.pl.ab.take k=T.pl.ab:=Dd (by have:=bn.out;omega);have i:=hH.out;have aS:=hE.out;rw[aL]at i aS;have am:T.pl.ab.length<=1000:=(by have:=bn.out;omega);replace⟨aW,aM,aL,i,aS,am⟩:=H6 aW aM aL i aS am;go_wp2_with fail;exact An (v:=D #[V bs hn hc,V b2 un uc]) (by simp[results,results135,go_sem]) rfl (i.post aS.out am.out)
