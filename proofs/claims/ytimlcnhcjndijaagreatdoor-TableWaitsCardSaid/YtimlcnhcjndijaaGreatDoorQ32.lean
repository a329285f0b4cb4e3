/- Parts Own, Hlw, Hlv. Plain theorems: no condition. -/
import Derived.Test.YtimlcnhcjndijaaGreatDoorQ29
import Derived.Test.YtimlcnhcjndijaaGreatDoorQ31
set_option linter.all false
set_option maxRecDepth 100000
set_option maxHeartbeats 6400000
namespace Go.Proofs.YtimlcnhcjndijaaGreatDoor
open Go.RowKit Go.Maps Go.Lib
structure Bh {α:Type} (cells:α->Array Value) (sz:Nat) (Ty:TypeId) (w:World) (B:Nat) (v:Value) (xs:List α):Prop where
 row:w.ownsRow B Ty sz v xs.length (Ar cells xs)
variable {α:Type} {cells:α->Array Value} {sz B:Nat} {Ty:TypeId} {w w':World} {v:Value} {xs:List α}
def Bh.nil (cells:α->Array Value) (sz:Nat) (a:TypeId) (w:World) (B:Nat):Bh cells sz a w B (.slice none 0 0) []:=⟨No _ _ _ _⟩
def Bh.mod {S:Nat->Prop} (h:Bh cells sz Ty w B v xs) (a:Mod S w w') (b:∀ k,v.ownBlock=some k->¬ S k):Bh cells sz Ty w' B v xs:=⟨Bb h.row a b⟩
def Bh.low (h:Bh cells sz Ty w B v xs) (a:Below w.heap.size w w'):Bh cells sz Ty w' B v xs:=h.mod (Mod.af (S:=fun _=>False) a) (fun _ _ c=>c)
def Bh.lt (h:Bh cells sz Ty w B v xs):∀ k,v.ownBlock=some k->B<=k/\k<w.heap.size:=fun k a=>h.row.lt k a
def Bh.len (h:Bh cells sz Ty w B v xs):∃ so n c,v=.slice so n c/\n=xs.length/\n<=c:=by
 rcases h.row.2 with ⟨rfl,h0⟩ | ⟨g,cap,a,rfl,_,_,h1,_⟩
 .exact ⟨none,0,0,rfl,h0.symm,Nat.le_refl _⟩
 .exact ⟨_,_,_,rfl,rfl,h1⟩
def Bh.aq (h:Bh cells sz Ty w B v xs) {k:Nat} (a:v.ownBlock=some k):∃ c,w.heap[k]?=some (.cells c Ty (0,0)):=by
 obtain ⟨c,b,_⟩:=C1 h.row a;exact ⟨c,b⟩
def Ak.aq {l:List Int} (h:Ak w B v l) {k:Nat} (a:v.ownBlock=some k):∃ c,w.heap[k]?=some (.cells c 3 (0,0)):=by
 obtain ⟨c,b,_⟩:=C1 h.row a;exact ⟨c,b⟩
def Ak.vy {so:Option Addr} {n c:Nat} {l:List Int} (h:Ak w B (.slice so n c) l):n=l.length:=by
 obtain ⟨a,m,b,e,d⟩:=h.len;injection e with _ e;omega
def Ap.pl {so:Option Addr} {n:Nat} {l:List Int} (h:Ap w so n l):Pl.Ap w so n l:=
 ⟨h.len,h.max,fun i f=>by
  have d:l[i]?=some (l[i]'(by rw [h.len];exact f)):=Am _;obtain ⟨b,a,e,c,g⟩:=h.cell i _ d;refine ⟨b,a,e,c,?_⟩;rw [g]
  simp [Pl.zi,List.getD,d]⟩
def Ap.vp {so:Option Addr} {n:Nat} {l:List Int} (h:Pl.Ap w so n l):Ap w so n l:=
 ⟨h.len,h.max,fun i x d=>by
  have f:=(Aq.1 d).1;obtain ⟨b,a,e,c,g⟩:=h.cell i (by rw [<- h.len];exact f);refine ⟨b,a,e,c,?_⟩;rw [g]
  simp [Pl.zi,List.getD,d]⟩
def Bh.cell (d:∀ x,(cells x).size=sz) {f:Option Addr} {n c:Nat} (h:Bh cells sz Ty w B (.slice f n c) xs) (i:Nat) (x:α) (k:xs[i]?=some x):∃ b a,f=some ⟨b,a,none⟩/\b<w.heap.size/\a=0/\∀ j,j<sz->w.cell? ⟨b,a+i*sz+j,none⟩=(cells x)[j]?:=by
 have s:=(Aq.1 k).1;have l:=h.row;rcases l.2 with ⟨e,h0⟩ | ⟨g,cap,o,e,t,p,q,u,m⟩
 .omega
 .injection e with e1 e2 e3;subst e1 e2 e3;refine ⟨g,0,rfl,Ab p,rfl,fun j r=>?_⟩
  rw [D2,Gr l (i*sz+j) (by
   have:(i+1)*sz<=xs.length*sz:=Nat.mul_le_mul_right _ (by omega);rw [Kx] at this
   omega),Iq d xs k r]
def Bh.vm {j:Option Addr} {n c:Nat} {a:List dy} {k:TypeId} (h:Bh Sk 5 k w B (.slice j n c) a) (p:a.length<=1000000):Pc w j n a:=by
 obtain ⟨so,m,d,e,q,_⟩:=h.len;injection e with e1 e2 e3;refine ⟨by omega,by omega,fun i x l=>?_⟩;obtain ⟨b,f,e,g,_,o⟩:=Bh.cell (sz:=5) (cells:=Sk) (fun _=>rfl) h i x l;exact ⟨b,f,e,g,o⟩
def Bh.wj {j:Option Addr} {n c:Nat} {a:List cz} {k:TypeId} (h:Bh Qq 7 k w B (.slice j n c) a) (p:a.length<=1000000):Kl w j n a:=by
 obtain ⟨so,m,d,e,q,_⟩:=h.len;injection e with e1 e2 e3;refine ⟨by omega,by omega,fun i x l=>?_⟩;obtain ⟨b,f,e,g,_,o⟩:=Bh.cell (sz:=7) (cells:=Qq) (fun _=>rfl) h i x l;exact ⟨b,f,e,g,o⟩
def Bh.rows {ok:World->α->Prop} (a:∀ x,(cells x).size=sz) {j:Option Addr} {n c:Nat} (h:Bh cells sz Ty w B (.slice j n c) xs) (p:xs.length<=1000000) (l:∀ x,x∈xs->ok w x):Pl.Mh cells sz ok w j n xs:=by
 obtain ⟨so,m,d,e,q,_⟩:=h.len;injection e with e1 e2 e3;refine ⟨by omega,by omega,fun i x k=>?_⟩;obtain ⟨b,f,e,g,_,o⟩:=h.cell a i x k;exact ⟨b,f,e,g,o,l x (Aj k)⟩
def Bh.snoc {L:Nat} {y:α} (h:w.ownsRow B Ty sz v (L+1) (Ar cells xs++(cells y).toList)) (a:xs.length=L):Bh cells sz Ty w B v (xs++[y]):=⟨by
 rw [De,Px,Tb,a]
 exact h⟩
def Bh.at_ {L:Nat} (h:Bh cells sz Ty w B v xs) (a:xs.length=L):w.ownsRow B Ty sz v L (Ar cells xs):=by
 rw [<- a];exact h.row
def Z7 (w:World) (cs:Array Value) (T:TypeId):∀ j u,cs.toList[j]?=some u->(w.alloc (.cells cs T)).cell? ((⟨w.heap.size,0,none⟩:Addr).add j)=some u:=Pl.Zs w cs T
def Agc {l:Array Oper} {rest:List Oper} {o:Oper} {a:Act} {Q:Exit->Act->World->Prop} (q:o.guard=none) (s x:Operand) (t:TypeId)
  (ho:o.op=.call { callee:=.builtin .append,args:=#[s,x],argTypes:=#[t,t] }) (B:Nat) (i:TypeInfo) (z:Value) (b:Nat) (ht:Tryz.prog.underlying t=some (.slice Ty)) (hi:Tryz.prog.info? Ty=some i) (hz:i.zero=some z) (r:i.size=sz) (ac:i.bytes=b) (ad:z.cells.size=sz) (h0:0<sz) (al:b<=1000)
  (am:∀ y,(cells y).size=sz) (v:Value) (hs:a.eval s=v) (L:Nat) (m:Bh cells sz Ty w B v xs) (an:xs.length=L) (k:Nat) (c:Nat) (hx:a.eval x=.slice (some ⟨k,0,none⟩) 1 c) (y:α) (p:∀ u∈(cells y).toList,u.oneCell'=true) {T2:TypeId} {fr:Nat×Nat} (hk:w.heap[k]?=some (.cells (cells y) T2 fr)) (hL:L<=1000000) (hb:B<=w.heap.size)
  (h:∀ g cap w',Bh cells sz Ty w' B (.slice (some ⟨g,0,none⟩) (L+1) cap) (xs++[y])->w.grownBy w' v.ownBlock->(v.ownBlock=some g\/g=w.heap.size)->wpList Tryz.prog l Q rest (a.put o.dst (.slice (some ⟨g,0,none⟩) (L+1) cap)) w') :
  wpList Tryz.prog l Q (o :: rest) a w:=by
 subst an;refine Q6 w q s x t ho B Ty i z sz b ht hi hz r ac ad h0 v xs.length (Ar cells xs) hs m.row ⟨k,0,none⟩ 1 c (cells y).toList hx (by simp [am y]) ?_ p (Je (n:=xs.length) (by omega)) ?_ hb ?_
 .intro j u hu;show w.cell? ((⟨k,0,none⟩:Addr).add j)=some u;have:=Aa hk j
  have e:(⟨k,0,none⟩:Addr).add j=⟨k,j,none⟩:=by
   cases j with
   | zero=>rfl
   | succ j=>simp [Addr.add]
  rw [e,this];simpa using hu
 .have:(xs.length+1)*b<=1000001*1000:=Oq (by omega) al;omega
 .intro v' w' d f _ ao;obtain ⟨g,cap,rfl⟩:=Joins.ownsRow_form d (by omega);refine h g cap w' ⟨?_⟩ f ?_
  .rw [De,Px,Tb];exact d
  .rcases ao with e | e
   .exact .inl e.symm
   .simp [Value.ownBlock] at e;exact .inr e
end Go.Proofs.YtimlcnhcjndijaaGreatDoor
namespace Go.Proofs.YtimlcnhcjndijaaGreatDoor
open Go.RowKit Go.Maps Go.Lib
def Asn:(Tryz.prog.info? 261).map (fun i=>(i.zero,i.size,i.bytes))=some (some (.agg #[.slice none 0 0,.int .i64 0,.int .i64 0,.int .i64 0,.int .i64 0,.int .i64 0]),6,64):=by kernel_rfl
def Aso:(Tryz.prog.info? 259).map (fun i=>(i.zero,i.size,i.bytes))=some (some (.agg #[.string ByteArray.empty,.int .i64 0,.int .i64 0,.int .i64 0,.int .i64 0]),5,48):=by kernel_rfl
structure my (w:World) (us:List dy) (hv uv:Value) (hs:List Pl.At) (wr:World):Prop where
 low:Below w.heap.size w wr
 ak:Bh Pl.At.cells 6 261 wr w.heap.size hv hs
 ia:Bh Sk 5 259 wr w.heap.size uv us
 rq:∀ h,h∈hs->Ak wr w.heap.size (.slice h.go h.gn h.gc) h.dv
variable {w wr w1 w2:World} {us:List dy} {hv uv:Value} {hs:List Pl.At}
def my.drop (h:my w us hv uv hs wr) (a:Below wr.heap.size wr w1):my w us hv uv hs w1:=
 ⟨h.low.trans (a.mono h.low.size),h.ak.low a,h.ia.low a,fun x b=>(h.rq x b).mod (Mod.af (S:=fun _=>False) a) (fun _ _ c=>c)⟩
def my.use (h:my w us hv uv hs wr) (j:Below wr.heap.size wr w1) (f:w1.grownBy w2 uv.ownBlock) {b:Value} {u:dy} (l:Bh Sk 5 259 w2 w.heap.size b (us++[u])):my w (us++[u]) hv b hs w2:=by
 have h1:=h.drop j;have g:=Mod.grown (S:=fun k=>uv.ownBlock=some k) f (fun k a=>a);refine ⟨h1.low.grown f h1.low.size (fun k a=>(h1.ia.lt k a).1),h1.ak.mod g (fun k a e=>?_),l,fun x i=>(h1.rq x i).mod g (fun k a e=>?_)⟩
 .obtain ⟨c,d⟩:=h1.ia.aq e;exact B2 h1.ak.row d (by decide) a
 .obtain ⟨c,d⟩:=h1.ia.aq e;exact B2 (h1.rq x i).row d (by decide) a
def my.hold (h:my w us hv uv hs wr) (l:Below wr.heap.size wr w1) (i:w1.grownBy w2 hv.ownBlock) {b:Value} {x:Pl.At} (m:Bh Pl.At.cells 6 261 w2 w.heap.size b (hs++[x])) (n:Ak w1 w.heap.size (.slice x.go x.gn x.gc) x.dv):my w us b uv (hs++[x]) w2:=by
 have h1:=h.drop l;have j:=Mod.grown (S:=fun k=>hv.ownBlock=some k) i (fun k a=>a);refine ⟨h1.low.grown i h1.low.size (fun k a=>(h1.ak.lt k a).1),m,h1.ia.mod j (fun k a e=>?_),fun y d=>?_⟩
 .obtain ⟨c,g⟩:=h1.ak.aq e;exact B2 h1.ia.row g (by decide) a
 .have f:Ak w1 w.heap.size (.slice y.go y.gn y.gc) y.dv:=by
   rcases Dt.1 d with d | d
   .exact h1.rq y d
   .rw [I7.1 d];exact n
  refine f.mod j (fun k a e=>?_);obtain ⟨c,g⟩:=h1.ak.aq e;exact B2 f.row g (by decide) a
def Asp (l:List Jb) (j:Jb):C8 (l++[j])=C8 l++if j.live=true then [⟨j.sp.user,Kg j⟩] else []:=by
 unfold C8;rw [Om,Ds];congr 1
 by_cases q:j.live=true<;>simp [q]
def Asq (l:List Jb) (j:Jb):E7 (l++[j])=E7 l++if j.live=true then [((j.parts.filter fun p=>decide (p.2=0)).map Prod.fst,j.sp.dn,L1 j)] else []:=by
 unfold E7;rw [Om,Ds];congr 1
 by_cases q:j.live=true<;>simp [q]
def Ak.pl {B:Nat} {so:Option Addr} {n c:Nat} {l:List Int} (h:Ak w B (.slice so n c) l):Pl.Ap w so n l/\n<=c:=by
 obtain ⟨b,f,g,e,a,d,_⟩:=P6 h;injection e with e1 e2 e3;subst e1 e2 e3;exact ⟨d.pl,a⟩
def Z9 (w:World) (pls:List Jb) (e:Ending) (w':World):Prop:=
 ∃ ho hc uo uc hs,e=.returned (.tuple #[.slice ho hs.length hc,.slice uo (C8 pls).length uc])/\Pl.V8 w' ho hs.length hs/\hs.map Pl.At.er=(E7 pls).map Li/\Pc w' uo (C8 pls).length (C8 pls)/\Below w.heap.size w w'
def my.post {a:List Jb} {b c:Option Addr} {d e f g:Nat} (h:my w (C8 a) (.slice b d f) (.slice c e g) hs wr) (k:hs.map Pl.At.er=(E7 a).map Li) (s:a.length<=1000):Z9 w a (.returned (.tuple #[.slice b d f,.slice c e g])) wr:=by
 have l:(C8 a).length<=a.length:=by unfold C8;rw [Ax];exact Nn _ _
 have m:hs.length<=a.length:=by have:=Ca List.length k;simp only [Ax] at this;rw [this];unfold E7;rw [Ax];exact Nn _ _
 obtain ⟨_,_,_,n,t,_⟩:=h.ak.len;injection n with a1 a2 a3;obtain ⟨_,_,_,o,u,_⟩:=h.ia.len;injection o with b1 b2 b3;have i:d=hs.length:=by omega
 have j:e=(C8 a).length:=by omega
 subst i j;refine ⟨b,f,c,g,hs,rfl,Bh.rows (cells:=Pl.At.cells) (sz:=6) (ok:=Pl.At.ok) (fun _=>rfl) h.ak (by omega) (fun x p=>?_),k,h.ia.vm (by omega),h.low⟩;obtain ⟨q,r⟩:=(h.rq x p).pl;exact ⟨q,r⟩
end Go.Proofs.YtimlcnhcjndijaaGreatDoor
namespace Go.Proofs.YtimlcnhcjndijaaGreatDoor
open Go.RowKit Go.Maps Go.Lib
def Asr:0<5:=Kw _
def Ass {W:World} {b:Nat} {i a1 a2 a3 j k:Value} {T:TypeId} (h:W.heap[b]?=some (.cells #[i,a1,a2,a3,j,k] T (0,0))) (a c d e f g:Value) :
  ((((((W.setCell ⟨b,0,none⟩ a).setCell ⟨b,1,none⟩ c).setCell ⟨b,2,none⟩ d).setCell ⟨b,3,none⟩ e).setCell ⟨b,4,none⟩ f).setCell ⟨b,5,none⟩ g).heap[b]?=some (.cells #[a,c,d,e,f,g] T (0,0)):=by
 have l:=Al (Al (Al (Al (Al (Al h 0 a) 1 c) 2 d) 3 e) 4 f) 5 g;simpa using l
def Pd (j:Jb):List Int:=(j.parts.filter fun p=>decide (p.2=0)).map Prod.fst
def Lk (j:Jb) (n:Nat):List Int:=((j.parts.take n).filter fun p=>decide (p.2=0)).map Prod.fst
def Ast {j:Jb} {n:Nat} {p:Int×Int} (h:j.parts[n]?=some p):Lk j (n+1)=Lk j n++if p.2=0 then [p.1] else []:=by
 unfold Lk;rw [J7 h,Om,Ds];congr 1
 by_cases q:p.2=0<;>simp [q]
def Asu (j:Jb) (n:Nat):(Lk j n).length<=n:=by
 unfold Lk;rw [Ax];exact A6 (Nn _ _) (Pn _ _)
structure yl (w:World) (us:List dy) (hv:Value) (hs:List Pl.At) (v:Value) (wx:World):Prop where
 ex:∃ so n c,v=.slice so n c
 at_:my w us hv v hs wx
structure xp (w0:World) (x:Pl.At) (v:Value) (wx:World):Prop where
 ex:∃ b,v=.pointer (some ⟨b,0,none⟩)/\w0.heap.size<=b/\wx.heap[b]?=some (.cells x.cells 261 (0,0))
 low:Below w0.heap.size w0 wx
def Asv {w:World} {T:Tv} (h:An w T) (bB:∀ j,j∈T.js->Z8 j.2.pl) (cf:T.js.length<=1000) (bC:∀ j,j∈T.js->j.2.pn<=1000) :
  Calls Tryz.prog 135 #[.pointer (some ⟨T.tb,0,none⟩)] w (Z9 w T.pl.ab):=by
 obtain ⟨b5,aE,aF,am,an⟩:=C0 Asn;obtain ⟨b6,aG,aH,ao,ap⟩:=C0 Aso;obtain ⟨so,cap,a8,bD,b7,ak⟩:=h.l8;have c4:=Bk h.head 4 T.jv rfl;rw [a8] at c4;obtain ⟨m,hm⟩:=Ex (T.js.length);obtain ⟨tb,ht⟩:=Ex (T.tb);rw [<- hm] at c4 cf bD b7;rw [<- ht] at c4;rw [<- ht];have a9:T.pl.ab.length=m:=by rw [hm];simp [Tv.pl]
 have bE:my w (C8 (T.pl.ab.take 0)) (.slice none 0 0) (.slice none 0 0) [] w:=⟨Below.refl _ _,Bh.nil _ _ _ _ _,Bh.nil _ _ _ _ _,fun x hx=>by simp at hx⟩;have bF:([]:List Pl.At).map Pl.At.er=(E7 (T.pl.ab.take 0)).map Li:=rfl;replace ⟨h,bB,bC,a8,bD,ak,ht,hm⟩:=H8 h bB bC a8 bD ak ht hm;replace ⟨a9,bE,bF,aE,aF,am,an,aG⟩:=H8 a9 bE bF aE aF am an aG;replace ⟨aH,ao,ap⟩:=H3 aH ao ap;go_enter Tryz.func135,Tryz.ntmps135;go_wp2_with fail;go_loopw [4,5,7,8,10,17,52] (fun hv uv _ _ _ iv _ wr=>∃ (k:Nat) (hs:List Pl.At),iv=.int .i64 k/\k<=m/\Hid (my w (C8 (T.pl.ab.take k)) hv uv hs wr)/\Hid (hs.map Pl.At.er=(E7 (T.pl.ab.take k)).map Li)) (fun _ _ _ _ _ iv _ _=>m-(intOf iv).toNat)
 case atStart=>exact ⟨0,[],rfl,Av _,bE,bF⟩
 case round=>
  obtain ⟨k,hs,rfl,cw,hH,hE⟩:=hrel;obtain ⟨ba,hn,hc,rfl,aT,_⟩:=hH.out.ak.len;obtain ⟨bG,un,uc,rfl,aI,_⟩:=hH.out.ia.len;by_cases cx:k<m
  .have ch:(k:Int)<m:=(by omega);have cy:(0:Int)<=(k:Int):=(by omega);obtain ⟨j,hj⟩:∃ j,T.js[k]?=some j:=⟨_,Am (by have:=hm.out;omega)⟩;obtain ⟨g,rfl,bH⟩:=ak.out k j hj;have bI:=(h.out.ab.lt g (by rw [a8.out];rfl)).2;have cj:=(Ag hH.out.low bI).trans bH;have aJ:=Aj hj;obtain ⟨jb,x⟩:=j;have o:∀ W,Below w.heap.size w W->A9 W jb x:=fun W hW=>Ae hW (h.out.box _ aJ) (Ab (h.out.box _ aJ));have bb:∀ W,Below w.heap.size w W->N0 W T.ay x:=fun W hW=>(h.out.low hW).ok _ aJ;have bJ:=bB.out _ aJ;have bK:=bC.out _ aJ;have aK:T.pl.ab.take (k+1)=T.pl.ab.take k++[x.pl]:=J7 (by simp [Tv.pl,hj]);have aU:=Asp (T.pl.ab.take k) x.pl;have aV:=Asq (T.pl.ab.take k) x.pl;rw [<- aK] at aU aV;have aC:=o _ hH.out.low;have b8:=Bk aC 14 (.int .i64 x.pl.lf.st) rfl;have kl:=fun W=>P8 x.pl.lf.st W;obtain ⟨st,av⟩:=Ex (x.pl.lf.st);obtain ⟨q,hq⟩:=Ex (df x.pl.lf.st);have bL:x.pl.live=q:=hq.symm;rw [<- hq] at kl;rw [<- av] at kl b8;rw [bL] at aU aV;replace ⟨hj,bH,bI,aJ,o,bb,bJ,bK⟩:=H8 hj bH bI aJ o bb bJ bK;replace ⟨aK,aU,aV,aC,kl,av,hq,bL⟩:=H8 aK aU aV aC kl av hq bL;replace ⟨aT,aI⟩:=H2 aT aI
   cases q with
   | false=>
    have i:Hid (my w (C8 (T.pl.ab.take (k+1))) (.slice ba hn hc) (.slice bG un uc) hs wr):=Hh (by have:=aU.out;simp at this;rw [this];exact hH.out);have aW:Hid (hs.map Pl.At.er=(E7 (T.pl.ab.take (k+1))).map Li):=Hh (by have:=aV.out;simp at this;rw [this];exact hE.out);go_wp2_with (go_at_call 131;(with_reducible refine (kl.out _).mono ?_);rintro e w1 ⟨rfl,rfl⟩);go_roundw
    case rel=>exact ⟨k+1,hs,by go_num,by omega,i,aW⟩
    case measure=>simp [intOf];omega
   | true=>
    go_upto_region 7 with (go_at_call 131;(with_reducible refine (kl.out _).mono ?_);rintro e w1 ⟨rfl,rfl⟩)
    have kn:∀ W,Below w1.heap.size w1 W->Calls Tryz.prog 184 #[.pointer (some ⟨jb,0,none⟩)] W fun e w'=>e=.returned (Kg x.pl).val/\Below w1.heap.size w1 w':=fun W hW=>by
     have hl:=hH.out.low.trans (hW.mono hH.out.low.size);refine (Age (o.out _ hl) (bb.out _ hl)).mono ?_;rintro e w' ⟨h1,h2⟩;exact ⟨h1,hW.trans (h2.mono hW.size)⟩
    obtain ⟨⟨n0,n1,n2,n3⟩,bc⟩:∃ v,v=Kg x.pl:=⟨_,rfl⟩;rw [<- bc] at kn;obtain ⟨us,aQ⟩:=Ex (x.pl.sp.user);have y1:w1.cell? ⟨jb,1,none⟩=some (.string us):=(by rw [aQ];exact Aa aC.out 1);have b9:=Ab aC.out
    have a0:∀ u∈([.string us,.int .i64 n0,.int .i64 n1,.int .i64 n2,.int .i64 n3]:List Value),u.oneCell'=true:=by intro u hu;simp at hu;rcases hu with rfl | rfl | rfl | rfl | rfl<;>rfl
    have ca:un<=1000:=by
     have:=aI.out;have h2:(C8 (T.pl.ab.take k)).length<=(T.pl.ab.take k).length:=(by unfold C8;rw [Ax];exact Nn _ _);have h3:=Pn k T.pl.ab;omega
    have bM:=Je (n:=un) (by omega);have bN:(un+1)*48<=140737488355328:=(by omega);have a1:C8 (T.pl.ab.take (k+1))=C8 (T.pl.ab.take k)++[⟨us,⟨n0,n1,n2,n3⟩⟩]:=(by have:=aU.out;simp at this;rw [this,aQ,bc]);replace ⟨kn,bc,aQ,a0,ca,bM,bN,a1⟩:=H8 kn bc aQ a0 ca bM bN a1;clear b8 cj;go_cut [5] (fun v wx=>yl w (C8 (T.pl.ab.take (k+1))) (.slice ba hn hc) hs v wx)
    case first=>
     go_region_law (first
      | (go_simp;go_at_call 184;refine (kn.out _ (by first | exact (Below.refl _ _).drew | exact Below.refl _ _ | exact A8 _ _ _)).mono ?_;rintro e w2 ⟨rfl,l⟩;have cA:=(Ag l b9).trans y1;have hA:Below w1.heap.size w1 (w2.alloc (.cells #[.string us,.int .i64 n0,.int .i64 n1,.int .i64 n2,.int .i64 n3] 259)):=l.alloc l.size _;have aL:=((hH.out.drop hA).ia).at_ aI.out.symm;have aM:=Z7 w2 #[.string us,.int .i64 n0,.int .i64 n1,.int .i64 n2,.int .i64 n3] 259;have r:=A6 hH.out.low.size hA.size
         replace ⟨l,hA,aL,aM,r⟩:=H5 l hA aL aM r)
      | (refine Td (by rfl) _ _ _ (by rfl) w.heap.size 259 b6 _ 5 48 Tryz.underlying213 aG.out aH.out ao.out ap.out rfl Asr (.slice bG un uc) un _ (by rfl) aL.out ⟨w2.heap.size,0,none⟩ 1 [.string us,.int .i64 n0,.int .i64 n1,.int .i64 n2,.int .i64 n3] (by rfl) (by rfl) aM.out a0.out bM.out bN.out r.out ?_;intro g9 cb w9 aN aA
         replace ⟨aN,aA⟩:=H2 aN aA))
     all_goals
      go_wp2_with fail;go_meet
      case rel=>exact ⟨⟨_,_,_,rfl⟩,by
       have:=hH.out.use (u:=⟨us,⟨n0,n1,n2,n3⟩⟩) hA.out aA.out (Bh.snoc (cells:=Sk) aN.out aI.out.symm);rw [a1.out]
       exact this⟩
    case rest=>
    obtain ⟨y,bO⟩:=Ex (wc);rw [<- bO] at hcut;rw [<- bO];clear bO;obtain ⟨ct,cB,cC,rfl⟩:=hcut.ex;have i:=hcut.at_;obtain ⟨_,_,_,e1,bA,_⟩:=i.ia.len;injection e1 with e1 e2 e3;subst e2;clear e1 e3;have s:=o.out _ i.low;obtain ⟨⟨da,db,dc,dd⟩,aO⟩:∃ d,d=x.pl.sp.dn:=⟨_,rfl⟩;have z4:y.cell? ⟨jb,4,none⟩=some (.int .i64 da):=(by rw [Aa s 4,show da=x.pl.sp.dn.a by rw [<- aO]];rfl);have z5:y.cell? ⟨jb,5,none⟩=some (.int .i64 db):=(by rw [Aa s 5,show db=x.pl.sp.dn.b by rw [<- aO]];rfl);have z6:y.cell? ⟨jb,6,none⟩=some (.int .i64 dc):=(by rw [Aa s 6,show dc=x.pl.sp.dn.c by rw [<- aO]];rfl);have z7:y.cell? ⟨jb,7,none⟩=some (.int .i64 dd):=(by rw [Aa s 7,show dd=x.pl.sp.dn.d by rw [<- aO]];rfl);have f:=Ab s
    have kt:∀ W,Below y.heap.size y W->Calls Tryz.prog 132 #[.pointer (some ⟨jb,0,none⟩)] W fun e w'=>e=.returned (.int .i64 (L1 x.pl))/\Below y.heap.size y w'/\Below W.heap.size W w':=fun W hW=>by
     have hl:=i.low.trans (hW.mono i.low.size);refine (Agd (o.out _ hl) bJ.out).mono ?_;rintro e w' ⟨h1,n,rfl⟩;exact ⟨h1,hW.trans ((A8 _ W n).mono hW.size),A8 _ W n⟩
    have ac:=(Below.refl y.heap.size y).alloc Ln (.cells #[.slice none 0 0,.int .i64 0,.int .i64 0,.int .i64 0,.int .i64 0,.int .i64 0] 261);have ci:=(Ag ac f).trans z4;have ck:=(Ag ac f).trans z5;have cl:=(Ag ac f).trans z6;have cm:=(Ag ac f).trans z7;obtain ⟨lt,bd⟩:=Ex (L1 x.pl);rw [<- bd] at kt;clear hcut y1 b9;replace ⟨i,s,aO,kt,bd,bA,ac⟩:=H7 i s aO kt bd bA ac;go_upto_region 8 with fail;go_cut [8] (fun v wx=>xp y ⟨none,0,0,[],⟨da,db,dc,dd⟩,lt⟩ v wx)
    case first=>
     go_region_law (first
      | (go_simp;go_at_call 132;refine (kt.out _ (by first | exact (Below.refl _ _).drew | exact Below.refl _ _ | exact Bn.drew | exact A8 _ _ _)).mono ?_;rintro e w2 ⟨rfl,l,bP⟩
         (try have z:=Ae bP (b:=y.heap.size) (x:=.cells #[.slice none 0 0,.int .i64 0,.int .i64 0,.int .i64 0,.int .i64 0,.int .i64 0] 261 (0,0)) (Af y _) (by simp))
         (try have m0:=Aa z 0)
         (try have m1:=Aa z 1)
         (try have m2:=Aa z 2)
         (try have m3:=Aa z 3)
         (try have m4:=Aa z 4)
         (try have m5:=Aa z 5)
         (try have mf:=Ah z)
         (try simp at m0 m1 m2 m3 m4 m5)
         (try replace z:=Hh z)
         replace bP:=Hh bP;have cD:=(Ag l f).trans z4;have cE:=(Ag l f).trans z5;have cF:=(Ag l f).trans z6;have cG:=(Ag l f).trans z7;have aX:=l.alloc l.size (.cells #[.slice none 0 0,.int .i64 0,.int .i64 0,.int .i64 0,.int .i64 0,.int .i64 0] 261);have cH:=(Ag aX f).trans z4;have cI:=(Ag aX f).trans z5;have cJ:=(Ag aX f).trans z6;have cK:=(Ag aX f).trans z7;replace aX:=Hh aX
         replace l:=Hh l))
     all_goals
      go_wp2_with fail;go_meet
      case rel=>
       first
        | exact ⟨⟨_,rfl,l.out.size,Af _ _⟩,l.out.alloc l.out.size _⟩
        | exact ⟨⟨_,rfl,Nat.le_refl _,Ass z.out _ _ _ _ _ _⟩,C9 (C9 (C9 (C9 (C9 (C9 l.out Ln) Ln) Ln) Ln) Ln) Ln⟩
    case rest=>
    obtain ⟨⟨hb,rfl,bQ,be⟩,aB⟩:=hcut;have bR:=i.out.drop aB;have a2:=o.out _ bR.low;obtain ⟨po,bf⟩:=Ex (x.po);obtain ⟨pn,ad⟩:=Ex (x.pn);have co:wc.cell? ⟨jb,21,none⟩=some (.slice po pn x.pc):=(by rw [bf,ad];exact Aa a2 21);have aR:∀ W,Below y.heap.size y W->Bu W x:=fun W hW=>(bb.out W (i.out.low.trans (hW.mono i.out.low.size))).parts;have a3:x.pl.parts.length=pn:=(by rw [ad];exact J8 (aR _ aB));have cv:pn<=1000:=(by rw [ad];exact bK.out);have bS:=Ak.nil wc y.heap.size;have cc:=Ab be;clear z4 z5 z6 z7 ci ck cl cm f;replace ⟨bQ,be,aB,bR,a2,bf,ad,aR⟩:=H8 bQ be aB bR a2 bf ad aR;replace ⟨a3,bS,cc⟩:=H3 a3 bS cc;go_wp2_with fail;clear co;go_loopw [10,52] (fun _ iv wr=>∃ (n:Nat) (go:Option Addr) (gn gc:Nat),iv=.int .i64 n/\n<=pn/\Hid (Below y.heap.size y wr)/\Hid (wr.heap[hb]?=some (.cells (⟨go,gn,gc,[],⟨da,db,dc,dd⟩,lt⟩:Pl.At).cells 261 (0,0)))/\Hid (Ak wr y.heap.size (.slice go gn gc) (Lk x.pl n))) (fun _ iv _=>pn-(intOf iv).toNat)
    case atStart=>exact ⟨0,none,0,0,rfl,Av _,aB,be,bS⟩
    case round=>
     obtain ⟨n,go,gn,gc,rfl,cL,bg,aD,hI⟩:=hrel;have aY:=hI.out.vy;by_cases cp:n<pn
     .have cr:(n:Int)<pn:=(by omega);have cM:(0:Int)<=(n:Int):=(by omega);obtain ⟨pb,p,e,hp,c0,c1⟩:=Qb (aR.out _ bg.out) (k:=n) (by rw [<- ad.out];exact cp);have e2:=bf.out.trans e;subst e2;obtain ⟨p1,p2⟩:=p;simp only at c0 c1;have av:=Ast hp;simp only at av;obtain ⟨W3,bi⟩:=Ex (wr.alloc (.cells #[.int .i64 p1,.int .i64 p2] 65));obtain ⟨xb,bT⟩:=Ex (wr.heap.size);have a4:Below wr.heap.size wr W3:=(by rw [bi];exact Bn);have bk:W3.heap[xb]?=some (.cells #[.int .i64 p1,.int .i64 p2] 65 (0,0)):=(by rw [bi,bT];exact Af _ _);have x0:=Bk bk 0 (.int .i64 p1) rfl;have x1:=Bk bk 1 (.int .i64 p2) rfl;have al:=Ae a4 aD.out (Ab aD.out);have bl:=hI.out.mod (Mod.af (S:=fun _=>False) a4) (fun _ _ c=>c);have a5:=bg.out.trans (a4.mono bg.out.size);replace ⟨hp,e,av,a4,bk,al,bl,a5⟩:=H8 hp e av a4 bk al bl a5;replace aY:=Hh aY;go_upto_region 12 with fail;rw [<- bi,<- bT];clear bi bT c0 c1;by_cases q2:p2=0
      .subst q2;have t:Lk x.pl (n+1)=Lk x.pl n++[p1]:=(by rw [av.out,Ad rfl]);have m0:=Bk al.out 0 (.slice go gn gc) rfl;have hA:=(Below.refl W3.heap.size W3).alloc Ln (.cells #[.int .i64 p1] 3 (0,0));have t7:=bl.out.mod (Mod.af (S:=fun _=>False) hA) (fun _ _ c=>c);have t8:(W3.alloc (.cells #[.int .i64 p1] 3 (0,0))).cell? ⟨W3.heap.size,0,none⟩=some (.int .i64 p1):=Aa (Af _ _) 0;have bn:=a5.out.trans (hA.mono a5.out.size);have t9:=bn.size;have aS:=Ae hA al.out (Ab al.out);have bU:gn<=1000000000:=(by have:=aY.out;have:=Asu x.pl n;omega);replace ⟨t,hA,t7,t8,bn,t9,aS,bU⟩:=H8 t hA t7 t8 bn t9 aS bU;go_upto_region 14 with (at_builtin;refine Mk rfl _ _ rfl y.heap.size gn _ rfl t7.out aY.out.symm ⟨W3.heap.size,0,none⟩ 1 rfl p1 t8.out bU.out t9.out ?_;intro g7 a6 w7 h7 bs cs;have cd:=Mod.grown (S:=fun k=>(Value.slice go gn gc).ownBlock=some k) bs (fun k hk=>hk);have aZ:=cd.aq aS.out (fun e=>B2 t7.out.row aS.out (by decide) e);have k7:=Aa aZ 0;have f7:=Ah aZ 0;simp at k7;replace ⟨h7,bs,aZ⟩:=H3 h7 bs aZ;clear cd cs);have bV:=Al aZ.out 0 (.slice (some ⟨g7,0,none⟩) (gn+1) a6)
       have h8:=h7.out.mod (Mod.setCell (S:=fun k=>k=hb) w7 hb 0 (.slice (some ⟨g7,0,none⟩) (gn+1) a6) rfl) (fun k hk e=>by
        subst e
        exact B2 h7.out.row aZ.out (by decide) hk)
       have bW:=bn.out.grown bs.out t9.out (fun k hk=>(t7.out.lt k hk).1);have bX:Below y.heap.size y (w7.setCell ⟨hb,0,none⟩ (.slice (some ⟨g7,0,none⟩) (gn+1) a6)):=C9 bW bQ.out;rw [<- t.out] at h8;clear x0 x1 m0;replace ⟨bV,h8,bW,bX⟩:=H4 bV h8 bW bX;go_wp2_with fail;go_roundw
       case rel=>exact ⟨n+1,_,_,_,by go_num,by omega,bX,Hh (by simpa using bV.out),h8⟩
       case measure=>simp [intOf];omega
      .have t:Lk x.pl (n+1)=Lk x.pl n:=(by rw [av.out,Ac q2,Ps]);have q3:(p2 == (0:Int))=false:=(by simpa using q2);have bv:=bl.out;rw [<- t] at bv;replace ⟨t,bv⟩:=H2 t bv;go_wp2_with fail;go_roundw
       case rel=>exact ⟨n+1,_,_,_,by go_num,by omega,a5,al,bv⟩
       case measure=>simp [intOf];omega
     .have cr:¬ (n:Int)<pn:=(by omega);have bY:Lk x.pl n=Pd x.pl:=(by unfold Lk Pd;rw [Dn (by have:=a3.out;omega)]);have bZ:=hI.out;rw [bY] at bZ;have q0:=Bk aD.out 0 (.slice go gn gc) rfl;have q1:=Bk aD.out 1 (.int .i64 da) rfl;have q2:=Bk aD.out 2 (.int .i64 db) rfl;have q3:=Bk aD.out 3 (.int .i64 dc) rfl;have q4:=Bk aD.out 4 (.int .i64 dd) rfl;have q5:=Bk aD.out 5 (.int .i64 lt) rfl;have bw:=i.out.drop bg.out;have hA:=(Below.refl wr.heap.size wr).alloc Ln (.cells #[.slice go gn gc,.int .i64 da,.int .i64 db,.int .i64 dc,.int .i64 dd,.int .i64 lt] 261);have bx:=bw.drop hA;have b0:=bx.ak;have b1:=(bZ.le (B':=w.heap.size) i.out.low.size).mod (Mod.af (S:=fun _=>False) hA) (fun _ _ c=>c);have tA:(wr.alloc (.cells #[.slice go gn gc,.int .i64 da,.int .i64 db,.int .i64 dc,.int .i64 dd,.int .i64 lt] 261)).heap[wr.heap.size]?=some (.cells (Pl.At.cells ⟨go,gn,gc,Pd x.pl,⟨da,db,dc,dd⟩,lt⟩) 261 (0,0)):=Af _ _
      have aP:∀ u∈(Pl.At.cells ⟨go,gn,gc,Pd x.pl,⟨da,db,dc,dd⟩,lt⟩).toList,u.oneCell'=true:=by intro u hu;simp at hu;rcases hu with rfl | rfl | rfl | rfl | rfl | rfl<;>rfl
      have r:=bx.low.size
      have a7:hn<=1000000:=by
       have h1:=aT.out;have h2:=Ca List.length hE.out;simp only [Ax] at h2;have h3:(E7 (T.pl.ab.take k)).length<=(T.pl.ab.take k).length:=(by unfold E7;rw [Ax];exact Nn _ _);have h4:=Pn k T.pl.ab;omega
      clear bZ;replace ⟨bY,bw,hA,bx,b0,b1,tA,aP⟩:=H8 bY bw hA bx b0 b1 tA aP;replace ⟨r,a7,aY⟩:=H3 r a7 aY;go_wp2_with (at_builtin;refine Agc (cells:=Pl.At.cells) (sz:=6) rfl _ _ 212 rfl w.heap.size b5 _ 64 Tryz.underlying212 aE.out aF.out am.out an.out rfl (Kw _) (by decide) (fun _=>rfl) (.slice ba hn hc) rfl hn b0.out aT.out.symm wr.heap.size 1 rfl ⟨go,gn,gc,Pd x.pl,⟨da,db,dc,dd⟩,lt⟩ aP.out tA.out a7.out r.out ?_;intro g9 cb w9 h9 b2 ce;replace ⟨h9,b2,ce⟩:=H3 h9 b2 ce);have b3:=bw.out.hold hA.out b2.out h9.out b1.out
      have b4:(hs++[(⟨go,gn,gc,Pd x.pl,⟨da,db,dc,dd⟩,lt⟩:Pl.At)]).map Pl.At.er=(E7 (T.pl.ab.take (k+1))).map Li:=by
       have:=aV.out;simp at this;rw [this,Ds,Ds,hE.out];have e:Pl.At.er ⟨go,gn,gc,Pd x.pl,⟨da,db,dc,dd⟩,lt⟩=Li (Pd x.pl,x.pl.sp.dn,L1 x.pl):=(by rw [<- aO.out,<- bd.out];rfl);simp only [J2,List.map_nil];rw [e];rfl
      clear q0 q1 q2 q3 q4 q5;replace ⟨b3,b4⟩:=H2 b3 b4;go_roundw
      case rel=>exact ⟨k+1,_,by go_num,by omega,b3,b4⟩
      case measure=>simp [intOf];omega
  .have ch:¬ (k:Int)<m:=(by omega);have cN:k=m:=(by omega);have aK:T.pl.ab.take k=T.pl.ab:=Dn (by have:=a9.out;omega);have i:=hH.out;have aW:=hE.out;rw [aK] at i aW;have aB:T.pl.ab.length<=1000:=(by have:=a9.out;omega);replace ⟨aT,aI,aK,i,aW,aB⟩:=H6 aT aI aK i aW aB;go_wp2_with fail;exact Ao (v:=.tuple #[.slice ba hn hc,.slice bG un uc]) (by simp [results,Tryz.results135,go_sem]) rfl (i.out.post aW.out aB.out)
end Go.Proofs.YtimlcnhcjndijaaGreatDoor
