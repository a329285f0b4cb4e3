/- Parts of a proof. No condition. -/
import Derived.Test.YtimlcnhcjndijaaGreatDoorF25
import Derived.Test.YtimlcnhcjndijaaGreatDoorF27
import Derived.Test.YtimlcnhcjndijaaGreatDoorF28
set_option linter.all false
set_option maxRecDepth 100000
set_option maxHeartbeats 6400000
namespace Go.Proofs.YtimlcnhcjndijaaGreatDoor
open Go renaming World->WD,Value->VL
open Go.RowKit renaming Below->BW
open Go.Proofs.Tryz
section
open Go.RowKit Go.Maps Go.Lib
structure Be {α:Type} (cells:α->Array VL) (sz:Nat) (Ty:TypeId) (w:WD) (B:Nat) (v:VL) (xs:List α):Prop where
 row:w.ownsRow B Ty sz v xs.length (Au cells xs)
variable {α:Type} {cells:α->Array VL} {sz B:Nat} {Ty:TypeId} {w w':WD} {v:VL} {xs:List α}
def Be.nil (cells:α->Array VL) (sz:Nat) (Ty:TypeId) (w:WD) (B:Nat):Be cells sz Ty w B (.slice none 0 0) []:=⟨Lv _ _ _ _⟩
def Be.mod {S:Nat->Prop} (h:Be cells sz Ty w B v xs) (a:Mod S w w') (b:∀ k,v.ownBlock=some k->¬ S k):Be cells sz Ty w' B v xs:=⟨A7 h.row a b⟩
def Be.low (h:Be cells sz Ty w B v xs) (a:BW w.heap.size w w'):Be cells sz Ty w' B v xs:=h.mod (Mod.af (S:=fun _=>False) a) (fun _ _ c=>c)
def Be.lt (h:Be cells sz Ty w B v xs):∀ k,v.ownBlock=some k->B<=k/\k<w.heap.size:=fun k a=>h.row.lt k a
def Be.len (h:Be cells sz Ty w B v xs):∃ so n c,v=.slice so n c/\n=xs.length/\n<=c:=by
 rcases h.row.2 with ⟨rfl,h0⟩ | ⟨g,cap,a,rfl,_,_,h1,_⟩
 .exact ⟨none,0,0,rfl,h0.symm,Nat.le_refl _⟩
 .exact ⟨_,_,_,rfl,rfl,h1⟩
def Be.ar (h:Be cells sz Ty w B v xs) {k:Nat} (b:v.ownBlock=some k):∃ c,w.heap[k]?=some (.cells c Ty (0,0)):=by
 obtain ⟨c,a,_⟩:=Cq h.row b;exact ⟨c,a⟩
def Al.ar {l:List Int} (h:Al w B v l) {k:Nat} (b:v.ownBlock=some k):∃ c,w.heap[k]?=some (.cells c 3 (0,0)):=by
 obtain ⟨c,a,_⟩:=Cq h.row b;exact ⟨c,a⟩
def Al.xe {so:Option Addr} {n c:Nat} {l:List Int} (h:Al w B (.slice so n c) l):n=l.length:=by
 obtain ⟨a,m,b,e,d⟩:=h.len;injection e with _ e;omega
def Ar.pl {so:Option Addr} {n:Nat} {l:List Int} (h:Ar w so n l):Pl.Ar w so n l:=
 ⟨h.len,h.max,fun i g=>by
  have d:l[i]?=some (l[i]'(by rw [h.len];exact g)):=A4 _;obtain ⟨b,c,e,a,f⟩:=h.cell i _ d;refine ⟨b,c,e,a,?_⟩;rw [f]
  simp [Pl.zi,List.getD,d]⟩
def Ar.xf {so:Option Addr} {n:Nat} {l:List Int} (h:Pl.Ar w so n l):Ar w so n l:=
 ⟨h.len,h.max,fun i x d=>by
  have g:=(Ao.1 d).1;obtain ⟨b,c,e,a,f⟩:=h.cell i (by rw [<- h.len];exact g);refine ⟨b,c,e,a,?_⟩;rw [f]
  simp [Pl.zi,List.getD,d]⟩
def Be.cell (d:∀ x,(cells x).size=sz) {f:Option Addr} {n c:Nat} (h:Be cells sz Ty w B (.slice f n c) xs) (i:Nat) (x:α) (m:xs[i]?=some x):∃ b a,f=some ⟨b,a,none⟩/\b<w.heap.size/\a=0/\∀ j,j<sz->w.cell? ⟨b,a+i*sz+j,none⟩=(cells x)[j]?:=by
 have t:=(Ao.1 m).1;have l:=h.row;rcases l.2 with ⟨e,h0⟩ | ⟨g,cap,o,e,s,p,r,u,k⟩
 .omega
 .injection e with e1 e2 e3;subst e1 e2 e3;refine ⟨g,0,rfl,Ab p,rfl,fun j q=>?_⟩
  rw [Da,E6 l (i*sz+j) (by
   have:(i+1)*sz<=xs.length*sz:=S7 _ (by omega);rw [Lz] at this
   omega),F2 d xs m q]
def Be.xj {j:Option Addr} {n c:Nat} {f:List eh} {Ty:TypeId} (h:Be Sv 5 Ty w B (.slice j n c) f) (p:f.length<=1000000):Pq w j n f:=by
 obtain ⟨so,m,d,e,o,_⟩:=h.len;injection e with e1 e2 e3;refine ⟨by omega,by omega,fun i x l=>?_⟩;obtain ⟨b,g,e,a,_,k⟩:=Be.cell (sz:=5) (cells:=Sv) (fun _=>rfl) h i x l;exact ⟨b,g,e,a,k⟩
def Be.xk {j:Option Addr} {n c:Nat} {g:List df} {Ty:TypeId} (h:Be Qv 7 Ty w B (.slice j n c) g) (p:g.length<=1000000):Ko w j n g:=by
 obtain ⟨so,m,d,e,o,_⟩:=h.len;injection e with e1 e2 e3;refine ⟨by omega,by omega,fun i x l=>?_⟩;obtain ⟨b,f,e,a,_,k⟩:=Be.cell (sz:=7) (cells:=Qv) (fun _=>rfl) h i x l;exact ⟨b,f,e,a,k⟩
def Be.rows {ok:WD->α->Prop} (f:∀ x,(cells x).size=sz) {j:Option Addr} {n c:Nat} (h:Be cells sz Ty w B (.slice j n c) xs) (q:xs.length<=1000000) (o:∀ x,x∈xs->ok w x):Pl.Mk cells sz ok w j n xs:=by
 obtain ⟨so,m,d,e,p,_⟩:=h.len;injection e with e1 e2 e3;refine ⟨by omega,by omega,fun i x k=>?_⟩;obtain ⟨b,g,e,a,_,l⟩:=h.cell f i x k;exact ⟨b,g,e,a,l,o x (Ai k)⟩
def Be.snoc {L:Nat} {y:α} (h:w.ownsRow B Ty sz v (L+1) (Au cells xs++(cells y).toList)) (a:xs.length=L):Be cells sz Ty w B v (xs++[y]):=⟨by
 rw [Cn,N0,P7,a]
 exact h⟩
def Be.at_ {L:Nat} (h:Be cells sz Ty w B v xs) (a:xs.length=L):w.ownsRow B Ty sz v L (Au cells xs):=by
 rw [<- a];exact h.row
def Abn (w:WD) (cs:Array VL) (T:TypeId):∀ j u,cs.toList[j]?=some u->(w.alloc (.cells cs T)).cell? ((⟨w.heap.size,0,none⟩:Addr).add j)=some u:=Pl.Aa9 w cs T
def Abo {p:Array Oper} {rest:List Oper} {o:Oper} {a:Act} {Q:Exit->Act->WD->Prop} (am:o.guard=none) (s x:Operand) (t:TypeId)
  (ho:o.op=.call { callee:=.builtin .append,args:=#[s,x],argTypes:=#[t,t] }) (B:Nat) (i:TypeInfo) (z:VL) (b:Nat) (ht:prog.underlying t=some (.slice Ty)) (hi:prog.info? Ty=some i) (hz:i.zero=some z) (an:i.size=sz) (ad:i.bytes=b) (ao:z.cells.size=sz) (h0:0<sz) (ac:b<=1000)
  (al:∀ y,(cells y).size=sz) (v:VL) (hs:a.eval s=v) (L:Nat) (m:Be cells sz Ty w B v xs) (q:xs.length=L) (k:Nat) (c:Nat) (hx:a.eval x=.slice (some ⟨k,0,none⟩) 1 c) (y:α) (l:∀ u∈(cells y).toList,u.oneCell'=true) {T2:TypeId} {fr:Nat×Nat} (hk:w.heap[k]?=some (.cells (cells y) T2 fr)) (hL:L<=1000000) (hb:B<=w.heap.size)
  (h:∀ g cap w',Be cells sz Ty w' B (.slice (some ⟨g,0,none⟩) (L+1) cap) (xs++[y])->w.grownBy w' v.ownBlock->(v.ownBlock=some g\/g=w.heap.size)->wpList prog p Q rest (a.put o.dst (.slice (some ⟨g,0,none⟩) (L+1) cap)) w') :
  wpList prog p Q (o :: rest) a w:=by
 subst q;refine Q9 w am s x t ho B Ty i z sz b ht hi hz an ad ao h0 v xs.length (Au cells xs) hs m.row ⟨k,0,none⟩ 1 c (cells y).toList hx (by simp [al y]) ?_ l (G4 (n:=xs.length) (by omega)) ?_ hb ?_
 .intro j u hu;show w.cell? ((⟨k,0,none⟩:Addr).add j)=some u;have:=Aa hk j
  have e:(⟨k,0,none⟩:Addr).add j=⟨k,j,none⟩:=by
   cases j with
   | zero=>rfl
   | succ j=>simp [Addr.add]
  rw [e,this];simpa using hu
 .have:(xs.length+1)*b<=1000001*1000:=Nat.mul_le_mul (by omega) ac;omega
 .intro v' w' d f _ r;obtain ⟨g,cap,rfl⟩:=Joins.ownsRow_form d (by omega);refine h g cap w' ⟨?_⟩ f ?_
  .rw [Cn,N0,P7];exact d
  .rcases r with e | e
   .exact .inl e.symm
   .simp [Value.ownBlock] at e;exact .inr e
end
section
open Go.RowKit Go.Maps Go.Lib
def Aur:(prog.info? 261).map (fun i=>(i.zero,i.size,i.bytes))=some (some (.agg #[.slice none 0 0,.int .i64 0,.int .i64 0,.int .i64 0,.int .i64 0,.int .i64 0]),6,64):=by kernel_rfl
def Aus:(prog.info? 259).map (fun i=>(i.zero,i.size,i.bytes))=some (some (.agg #[.string ByteArray.empty,.int .i64 0,.int .i64 0,.int .i64 0,.int .i64 0]),5,48):=by kernel_rfl
structure mo (w:WD) (us:List eh) (hv uv:VL) (hs:List Pl.Ay) (wr:WD):Prop where
 low:BW w.heap.size w wr
 ai:Be Pl.Ay.cells 6 261 wr w.heap.size hv hs
 iz:Be Sv 5 259 wr w.heap.size uv us
 re:∀ h,h∈hs->Al wr w.heap.size (.slice h.go h.gn h.gc) h.dq
variable {w wr w1 w2:WD} {us:List eh} {hv uv:VL} {hs:List Pl.Ay}
def mo.drop (h:mo w us hv uv hs wr) (a:BW wr.heap.size wr w1):mo w us hv uv hs w1:=
 ⟨h.low.trans (a.mono h.low.size),h.ai.low a,h.iz.low a,fun x b=>(h.re x b).mod (Mod.af (S:=fun _=>False) a) (fun _ _ c=>c)⟩
def mo.use (h:mo w us hv uv hs wr) (j:BW wr.heap.size wr w1) (f:w1.grownBy w2 uv.ownBlock) {b:VL} {u:eh} (l:Be Sv 5 259 w2 w.heap.size b (us++[u])):mo w (us++[u]) hv b hs w2:=by
 have h1:=h.drop j;have g:=Mod.grown (S:=fun k=>uv.ownBlock=some k) f (fun k a=>a);refine ⟨h1.low.grown f h1.low.size (fun k a=>(h1.iz.lt k a).1),h1.ai.mod g (fun k a e=>?_),l,fun x i=>(h1.re x i).mod g (fun k a e=>?_)⟩
 .obtain ⟨c,d⟩:=h1.iz.ar e;exact Bo h1.ai.row d (by decide) a
 .obtain ⟨c,d⟩:=h1.iz.ar e;exact Bo (h1.re x i).row d (by decide) a
def mo.hold (h:mo w us hv uv hs wr) (l:BW wr.heap.size wr w1) (i:w1.grownBy w2 hv.ownBlock) {b:VL} {x:Pl.Ay} (m:Be Pl.Ay.cells 6 261 w2 w.heap.size b (hs++[x])) (n:Al w1 w.heap.size (.slice x.go x.gn x.gc) x.dq):mo w us b uv (hs++[x]) w2:=by
 have h1:=h.drop l;have j:=Mod.grown (S:=fun k=>hv.ownBlock=some k) i (fun k a=>a);refine ⟨h1.low.grown i h1.low.size (fun k a=>(h1.ai.lt k a).1),m,h1.iz.mod j (fun k a e=>?_),fun y d=>?_⟩
 .obtain ⟨c,g⟩:=h1.ai.ar e;exact Bo h1.iz.row g (by decide) a
 .have f:Al w1 w.heap.size (.slice y.go y.gn y.gc) y.dq:=by
   rcases Dh.1 d with d | d
   .exact h1.re y d
   .rw [Jq.1 d];exact n
  refine f.mod j (fun k a e=>?_);obtain ⟨c,g⟩:=h1.ai.ar e;exact Bo f.row g (by decide) a
def Aut (l:List Jb) (j:Jb):Du (l++[j])=Du l++if j.live=true then [⟨j.sp.user,Kj j⟩] else []:=by
 unfold Du;rw [Nt,C9];congr 1
 by_cases q:j.live=true<;>simp [q]
def Auu (l:List Jb) (j:Jb):Dy (l++[j])=Dy l++if j.live=true then [((j.parts.filter fun p=>decide (p.2=0)).map Prod.fst,j.sp.cq,Ke j)] else []:=by
 unfold Dy;rw [Nt,C9];congr 1
 by_cases q:j.live=true<;>simp [q]
def Al.pl {B:Nat} {so:Option Addr} {n c:Nat} {l:List Int} (h:Al w B (.slice so n c) l):Pl.Ar w so n l/\n<=c:=by
 obtain ⟨d,g,f,e,a,b,_⟩:=Qe h;injection e with e1 e2 e3;subst e1 e2 e3;exact ⟨b.pl,a⟩
def Abq (w:WD) (fi:List Jb) (e:Ending) (w':WD):Prop:=
 ∃ ho hc uo uc hs,e=.returned (.tuple #[.slice ho hs.length hc,.slice uo (Du fi).length uc])/\Pl.Xi w' ho hs.length hs/\hs.map Pl.Ay.er=(Dy fi).map Jd/\Pq w' uo (Du fi).length (Du fi)/\BW w.heap.size w w'
def mo.post {a:List Jb} {e j:Option Addr} {c g b f:Nat} (h:mo w (Du a) (.slice e c b) (.slice j g f) hs wr) (k:hs.map Pl.Ay.er=(Dy a).map Jd) (u:a.length<=1000):Abq w a (.returned (.tuple #[.slice e c b,.slice j g f])) wr:=by
 have o:(Du a).length<=a.length:=by unfold Du;rw [At];exact Nr _ _
 have n:hs.length<=a.length:=by have:=Ca List.length k;simp only [At] at this;rw [this];unfold Dy;rw [At];exact Nr _ _
 obtain ⟨_,_,_,l,s,_⟩:=h.ai.len;injection l with a1 a2 a3;obtain ⟨_,_,_,m,t,_⟩:=h.iz.len;injection m with b1 b2 b3;have d:c=hs.length:=by omega
 have i:g=(Du a).length:=by omega
 subst d i;refine ⟨e,b,j,f,hs,rfl,Be.rows (cells:=Pl.Ay.cells) (sz:=6) (ok:=Pl.Ay.ok) (fun _=>rfl) h.ai (by omega) (fun x p=>?_),k,h.iz.xj (by omega),h.low⟩;obtain ⟨q,r⟩:=(h.re x p).pl;exact ⟨q,r⟩
end
section
open Go.RowKit Go.Maps Go.Lib
def Auv:0<5:=I3 _
def Auw {W:WD} {b:Nat} {i a1 a2 a3 j k:VL} {T:TypeId} (h:W.heap[b]?=some (.cells #[i,a1,a2,a3,j,k] T (0,0))) (a c d e f g:VL) :
  ((((((W.setCell ⟨b,0,none⟩ a).setCell ⟨b,1,none⟩ c).setCell ⟨b,2,none⟩ d).setCell ⟨b,3,none⟩ e).setCell ⟨b,4,none⟩ f).setCell ⟨b,5,none⟩ g).heap[b]?=some (.cells #[a,c,d,e,f,g] T (0,0)):=by
 have l:=Am (Am (Am (Am (Am (Am h 0 a) 1 c) 2 d) 3 e) 4 f) 5 g;simpa using l
def Pr (j:Jb):List Int:=(j.parts.filter fun p=>decide (p.2=0)).map Prod.fst
def Ll (j:Jb) (n:Nat):List Int:=((j.parts.take n).filter fun p=>decide (p.2=0)).map Prod.fst
def Aux {j:Jb} {n:Nat} {p:Int×Int} (h:j.parts[n]?=some p):Ll j (n+1)=Ll j n++if p.2=0 then [p.1] else []:=by
 unfold Ll;rw [I7 h,Nt,C9];congr 1
 by_cases q:p.2=0<;>simp [q]
def Auy (j:Jb) (n:Nat):(Ll j n).length<=n:=by
 unfold Ll;rw [At];exact A5 (Nr _ _) (Pz _ _)
structure yd (w:WD) (us:List eh) (hv:VL) (hs:List Pl.Ay) (v:VL) (wx:WD):Prop where
 ex:∃ so n c,v=.slice so n c
 at_:mo w us hv v hs wx
structure xz (w0:WD) (x:Pl.Ay) (v:VL) (wx:WD):Prop where
 ex:∃ b,v=.pointer (some ⟨b,0,none⟩)/\w0.heap.size<=b/\wx.heap[b]?=some (.cells x.cells 261 (0,0))
 low:BW w0.heap.size w0 wx
def Auz {w:WD} {T:Tv} (h:An w T) (bT:∀ j,j∈T.js->Abp j.2.pl) (ck:T.js.length<=1000) (bY:∀ j,j∈T.js->j.2.pn<=1000) :
  Calls prog 135 #[.pointer (some ⟨T.tb,0,none⟩)] w (Abq w T.pl.ab):=by
 obtain ⟨cc,aG,aP,aA,aB⟩:=Cb Aur;obtain ⟨cb,aF,aO,ap,av⟩:=Cb Aus;obtain ⟨so,cap,bi,bU,b9,ai⟩:=h.mm;have c4:=Bk h.head 4 T.jv rfl;rw [bi] at c4;obtain ⟨m,hm⟩:=Ex (T.js.length);obtain ⟨tb,ht⟩:=Ex (T.tb);rw [<- hm] at c4 ck bU b9;rw [<- ht] at c4;rw [<- ht];have bo:T.pl.ab.length=m:=by rw [hm];simp [Tv.pl]
 have bG:mo w (Du (T.pl.ab.take 0)) (.slice none 0 0) (.slice none 0 0) [] w:=⟨Below.refl _ _,Be.nil _ _ _ _ _,Be.nil _ _ _ _ _,fun x hx=>by simp at hx⟩;have bE:([]:List Pl.Ay).map Pl.Ay.er=(Dy (T.pl.ab.take 0)).map Jd:=rfl;replace ⟨h,bT,bY,bi,bU,ai,ht,hm⟩:=H8 h bT bY bi bU ai ht hm;replace ⟨bo,bG,bE,aG,aP,aA,aB,aF⟩:=H8 bo bG bE aG aP aA aB aF;replace ⟨aO,ap,av⟩:=H3 aO ap av;go_enter func135,ntmps135;go_wp2_with fail;go_loopw [4,5,7,8,10,17,52] (fun hv uv _ _ _ iv _ wr=>∃ (k:Nat) (hs:List Pl.Ay),iv=.int .i64 k/\k<=m/\Hid (mo w (Du (T.pl.ab.take k)) hv uv hs wr)/\Hid (hs.map Pl.Ay.er=(Dy (T.pl.ab.take k)).map Jd)) (fun _ _ _ _ _ iv _ _=>m-(intOf iv).toNat)
 case atStart=>exact ⟨0,[],rfl,Aq _,bG,bE⟩
 case round=>
  obtain ⟨k,hs,rfl,cx,hH,hE⟩:=hrel;obtain ⟨bv,hn,hc,rfl,aX,_⟩:=hH.ai.len;obtain ⟨b3,un,uc,rfl,aN,_⟩:=hH.iz.len;by_cases cv:k<m
  .have cf:(k:Int)<m:=(by omega);have cw:(0:Int)<=(k:Int):=(by omega);obtain ⟨j,hj⟩:=Ge T.js k (by have:=hm.out;omega);obtain ⟨g,rfl,bA⟩:=ai k j hj;have bS:=(h.ab.lt g (by rw [bi.out];rfl)).2;have cj:=(Ag hH.low bS).trans bA;have aH:=Ai hj;obtain ⟨jb,x⟩:=j;have r:∀ W,BW w.heap.size w W->Bb W jb x:=fun W hW=>Ae hW (h.box _ aH) (Ab (h.box _ aH));have bn:∀ W,BW w.heap.size w W->N6 W T.aw x:=fun W hW=>(h.low hW).ok _ aH;have bW:=bT _ aH;have bZ:=bY _ aH;have aM:T.pl.ab.take (k+1)=T.pl.ab.take k++[x.pl]:=I7 (by simp [Tv.pl,hj]);have aZ:=Aut (T.pl.ab.take k) x.pl;have aY:=Auu (T.pl.ab.take k) x.pl;rw [<- aM] at aZ aY;have aD:=r _ hH.low;have cd:=Bk aD 14 (.int .i64 x.pl.lf.st) rfl;have kl:=fun W=>Qg x.pl.lf.st W;obtain ⟨st,ao⟩:=Ex (x.pl.lf.st);obtain ⟨q,hq⟩:=Ex (di x.pl.lf.st);have bV:x.pl.live=q:=hq.symm;rw [<- hq] at kl;rw [<- ao] at kl cd;rw [bV] at aZ aY;replace ⟨hj,bA,bS,aH,r,bn,bW,bZ⟩:=H8 hj bA bS aH r bn bW bZ;replace ⟨aM,aZ,aY,aD,kl,ao,hq,bV⟩:=H8 aM aZ aY aD kl ao hq bV;replace ⟨aX,aN⟩:=H2 aX aN
   cases q with
   | false=>
    have i:Hid (mo w (Du (T.pl.ab.take (k+1))) (.slice bv hn hc) (.slice b3 un uc) hs wr):=Hh (by have:=aZ.out;simp at this;rw [this];exact hH.out);have aT:Hid (hs.map Pl.Ay.er=(Dy (T.pl.ab.take (k+1))).map Jd):=Hh (by have:=aY.out;simp at this;rw [this];exact hE.out);go_wp2_with (go_at_call 131;(with_reducible refine (kl.out _).mono ?_);rintro e w1 ⟨rfl,rfl⟩);go_roundw
    case rel=>exact ⟨k+1,hs,by go_num,by omega,i,aT⟩
    case measure=>simp [intOf];omega
   | true=>
    go_upto_region 7 with (go_at_call 131;(with_reducible refine (kl.out _).mono ?_);rintro e w1 ⟨rfl,rfl⟩)
    have kn:∀ W,BW w1.heap.size w1 W->Calls prog 184 #[.pointer (some ⟨jb,0,none⟩)] W fun e w'=>e=.returned (Kj x.pl).val/\BW w1.heap.size w1 w':=fun W hW=>by
     have hl:=hH.low.trans (hW.mono hH.low.size);refine (Ain (r _ hl) (bn _ hl)).mono ?_;rintro e w' ⟨h1,h2⟩;exact ⟨h1,hW.trans (h2.mono hW.size)⟩
    obtain ⟨⟨n0,n1,n2,n3⟩,bl⟩:∃ v,v=Kj x.pl:=⟨_,rfl⟩;rw [<- bl] at kn;obtain ⟨us,aS⟩:=Ex (x.pl.sp.user);have y1:w1.cell? ⟨jb,1,none⟩=some (.string us):=(by rw [aS];exact Aa aD.out 1);have b7:=Ab aD.out
    have a5:∀ u∈([.string us,.int .i64 n0,.int .i64 n1,.int .i64 n2,.int .i64 n3]:List VL),u.oneCell'=true:=by intro u hu;simp at hu;rcases hu with rfl | rfl | rfl | rfl | rfl<;>rfl
    have ca:un<=1000:=by
     have:=aN.out;have h2:(Du (T.pl.ab.take k)).length<=(T.pl.ab.take k).length:=(by unfold Du;rw [At];exact Nr _ _);have h3:=Pz k T.pl.ab;omega
    have bB:=G4 (n:=un) (by omega);have bQ:(un+1)*48<=140737488355328:=(by omega);have a7:Du (T.pl.ab.take (k+1))=Du (T.pl.ab.take k)++[⟨us,⟨n0,n1,n2,n3⟩⟩]:=(by have:=aZ.out;simp at this;rw [this,aS,bl]);replace ⟨kn,bl,aS,a5,ca,bB,bQ,a7⟩:=H8 kn bl aS a5 ca bB bQ a7;clear cd cj;go_cut [5] (fun v wx=>yd w (Du (T.pl.ab.take (k+1))) (.slice bv hn hc) hs v wx)
    case first=>
     go_region_law (first
      | (go_simp;go_at_call 184;refine (kn _ (by first | exact (Below.refl _ _).drew | exact Below.refl _ _ | exact A9 _ _ _)).mono ?_;rintro e w2 ⟨rfl,l⟩;have cE:=(Ag l b7).trans y1;have hA:BW w1.heap.size w1 (w2.alloc (.cells #[.string us,.int .i64 n0,.int .i64 n1,.int .i64 n2,.int .i64 n3] 259)):=l.alloc l.size _;have aL:=((hH.drop hA).iz).at_ aN.symm;have aI:=Abn w2 #[.string us,.int .i64 n0,.int .i64 n1,.int .i64 n2,.int .i64 n3] 259;have o:=A5 hH.low.size hA.size
         replace ⟨l,hA,aL,aI,o⟩:=H5 l hA aL aI o)
      | (refine Tl (by rfl) _ _ _ (by rfl) w.heap.size 259 cb _ 5 48 underlying213 aF.out aO.out ap.out av.out rfl Auv (.slice b3 un uc) un _ (by rfl) aL.out ⟨w2.heap.size,0,none⟩ 1 [.string us,.int .i64 n0,.int .i64 n1,.int .i64 n2,.int .i64 n3] (by rfl) (by rfl) aI.out a5.out bB.out bQ.out o.out ?_;intro g9 b4 w9 aK am
         replace ⟨aK,am⟩:=H2 aK am))
     all_goals
      go_wp2_with fail;go_meet
      case rel=>exact ⟨⟨_,_,_,rfl⟩,by
       have:=hH.use (u:=⟨us,⟨n0,n1,n2,n3⟩⟩) hA.out am.out (Be.snoc (cells:=Sv) aK.out aN.symm);rw [a7.out]
       exact this⟩
    case rest=>
    obtain ⟨y,b1⟩:=Ex (wc);rw [<- b1] at hcut;rw [<- b1];clear b1;obtain ⟨ct,cD,cC,rfl⟩:=hcut.ex;have i:=hcut.at_;obtain ⟨_,_,_,e1,bx,_⟩:=i.iz.len;injection e1 with e1 e2 e3;subst e2;clear e1 e3;have s:=r _ i.low;obtain ⟨⟨da,db,dc,dd⟩,aE⟩:∃ d,d=x.pl.sp.cq:=⟨_,rfl⟩;have z4:y.cell? ⟨jb,4,none⟩=some (.int .i64 da):=(by rw [Aa s 4,show da=x.pl.sp.cq.a by rw [<- aE]];rfl);have z5:y.cell? ⟨jb,5,none⟩=some (.int .i64 db):=(by rw [Aa s 5,show db=x.pl.sp.cq.b by rw [<- aE]];rfl);have z6:y.cell? ⟨jb,6,none⟩=some (.int .i64 dc):=(by rw [Aa s 6,show dc=x.pl.sp.cq.c by rw [<- aE]];rfl);have z7:y.cell? ⟨jb,7,none⟩=some (.int .i64 dd):=(by rw [Aa s 7,show dd=x.pl.sp.cq.d by rw [<- aE]];rfl);have f:=Ab s
    have kt:∀ W,BW y.heap.size y W->Calls prog 132 #[.pointer (some ⟨jb,0,none⟩)] W fun e w'=>e=.returned (.int .i64 (Ke x.pl))/\BW y.heap.size y w'/\BW W.heap.size W w':=fun W hW=>by
     have hl:=i.low.trans (hW.mono i.low.size);refine (Aim (r _ hl) bW.out).mono ?_;rintro e w' ⟨h1,n,rfl⟩;exact ⟨h1,hW.trans ((A9 _ W n).mono hW.size),A9 _ W n⟩
    have ac:=(Below.refl y.heap.size y).alloc Ln (.cells #[.slice none 0 0,.int .i64 0,.int .i64 0,.int .i64 0,.int .i64 0,.int .i64 0] 261);have cm:=(Ag ac f).trans z4;have co:=(Ag ac f).trans z5;have cp:=(Ag ac f).trans z6;have cr:=(Ag ac f).trans z7;obtain ⟨lt,bk⟩:=Ex (Ke x.pl);rw [<- bk] at kt;clear hcut y1 b7;replace ⟨i,s,aE,kt,bk,bx,ac⟩:=H7 i s aE kt bk bx ac;go_upto_region 8 with fail;go_cut [8] (fun v wx=>xz y ⟨none,0,0,[],⟨da,db,dc,dd⟩,lt⟩ v wx)
    case first=>
     go_region_law (first
      | (go_simp;go_at_call 132;refine (kt _ (by first | exact (Below.refl _ _).drew | exact Below.refl _ _ | exact Bn.drew | exact A9 _ _ _)).mono ?_;rintro e w2 ⟨rfl,l,bN⟩
         (try have z:=Ae bN (b:=y.heap.size) (x:=.cells #[.slice none 0 0,.int .i64 0,.int .i64 0,.int .i64 0,.int .i64 0,.int .i64 0] 261 (0,0)) (Ah y _) (by simp))
         (try have m0:=Aa z 0)
         (try have m1:=Aa z 1)
         (try have m2:=Aa z 2)
         (try have m3:=Aa z 3)
         (try have m4:=Aa z 4)
         (try have m5:=Aa z 5)
         (try have mf:=Af z)
         (try simp at m0 m1 m2 m3 m4 m5)
         (try replace z:=Hh z)
         replace bN:=Hh bN;have cF:=(Ag l f).trans z4;have cH:=(Ag l f).trans z5;have cJ:=(Ag l f).trans z6;have cL:=(Ag l f).trans z7;have aV:=l.alloc l.size (.cells #[.slice none 0 0,.int .i64 0,.int .i64 0,.int .i64 0,.int .i64 0,.int .i64 0] 261);have cG:=(Ag aV f).trans z4;have cI:=(Ag aV f).trans z5;have cK:=(Ag aV f).trans z6;have cM:=(Ag aV f).trans z7;replace aV:=Hh aV
         replace l:=Hh l))
     all_goals
      go_wp2_with fail;go_meet
      case rel=>
       first
        | exact ⟨⟨_,rfl,l.size,Ah _ _⟩,l.alloc l.size _⟩
        | exact ⟨⟨_,rfl,Nat.le_refl _,Auw z.out _ _ _ _ _ _⟩,B9 (B9 (B9 (B9 (B9 (B9 l.out Ln) Ln) Ln) Ln) Ln) Ln⟩
    case rest=>
    obtain ⟨⟨hb,rfl,bO,bg⟩,an⟩:=hcut;have bH:=i.drop an;have a3:=r _ bH.low;obtain ⟨po,bs⟩:=Ex (x.po);obtain ⟨pn,al⟩:=Ex (x.pn);have cl:wc.cell? ⟨jb,21,none⟩=some (.slice po pn x.pc):=(by rw [bs,al];exact Aa a3 21);have aR:∀ W,BW y.heap.size y W->Bv W x:=fun W hW=>(bn W (i.low.trans (hW.mono i.low.size))).parts;have a6:x.pl.parts.length=pn:=(by rw [al];exact Jt (aR _ an));have cs:pn<=1000:=(by rw [al];exact bZ.out);have bJ:=Al.nil wc y.heap.size;have b6:=Ab bg;clear z4 z5 z6 z7 cm co cp cr f;replace ⟨bO,bg,an,bH,a3,bs,al,aR⟩:=H8 bO bg an bH a3 bs al aR;replace ⟨a6,bJ,b6⟩:=H3 a6 bJ b6;go_wp2_with fail;clear cl;go_loopw [10,52] (fun _ iv wr=>∃ (n:Nat) (go:Option Addr) (gn gc:Nat),iv=.int .i64 n/\n<=pn/\Hid (BW y.heap.size y wr)/\Hid (wr.heap[hb]?=some (.cells (⟨go,gn,gc,[],⟨da,db,dc,dd⟩,lt⟩:Pl.Ay).cells 261 (0,0)))/\Hid (Al wr y.heap.size (.slice go gn gc) (Ll x.pl n))) (fun _ iv _=>pn-(intOf iv).toNat)
    case atStart=>exact ⟨0,none,0,0,rfl,Aq _,an,bg,bJ⟩
    case round=>
     obtain ⟨n,go,gn,gc,rfl,cB,a8,aC,hI⟩:=hrel;have aW:=hI.xe;by_cases ch:n<pn
     .have ci:(n:Int)<pn:=(by omega);have cA:(0:Int)<=(n:Int):=(by omega);obtain ⟨pb,p,e,hp,c0,c1⟩:=Qj (aR _ a8.out) (k:=n) (by rw [<- al.out];exact ch);have e2:=bs.trans e;subst e2;obtain ⟨p1,p2⟩:=p;simp only at c0 c1;have ao:=Aux hp;simp only at ao;obtain ⟨W3,be⟩:=Ex (wr.alloc (.cells #[.int .i64 p1,.int .i64 p2] 65));obtain ⟨xb,b2⟩:=Ex (wr.heap.size);have a2:BW wr.heap.size wr W3:=(by rw [be];exact Bn);have bw:W3.heap[xb]?=some (.cells #[.int .i64 p1,.int .i64 p2] 65 (0,0)):=(by rw [be,b2];exact Ah _ _);have x0:=Bk bw 0 (.int .i64 p1) rfl;have x1:=Bk bw 1 (.int .i64 p2) rfl;have ad:=Ae a2 aC.out (Ab aC.out);have bc:=hI.mod (Mod.af (S:=fun _=>False) a2) (fun _ _ c=>c);have a1:=a8.trans (a2.mono a8.size);replace ⟨hp,e,ao,a2,bw,ad,bc,a1⟩:=H8 hp e ao a2 bw ad bc a1;replace aW:=Hh aW;go_upto_region 12 with fail;rw [<- be,<- b2];clear be b2 c0 c1;by_cases q2:p2=0
      .subst q2;have t:Ll x.pl (n+1)=Ll x.pl n++[p1]:=(by rw [ao.out,Ad rfl]);have m0:=Bk ad.out 0 (.slice go gn gc) rfl;have hA:=(Below.refl W3.heap.size W3).alloc Ln (.cells #[.int .i64 p1] 3 (0,0));have t7:=bc.mod (Mod.af (S:=fun _=>False) hA) (fun _ _ c=>c);have t8:(W3.alloc (.cells #[.int .i64 p1] 3 (0,0))).cell? ⟨W3.heap.size,0,none⟩=some (.int .i64 p1):=Aa (Ah _ _) 0;have a9:=a1.trans (hA.mono a1.size);have t9:=a9.size;have aQ:=Ae hA ad.out (Ab ad.out);have bP:gn<=1000000000:=(by have:=aW.out;have:=Auy x.pl n;omega);replace ⟨t,hA,t7,t8,a9,t9,aQ,bP⟩:=H8 t hA t7 t8 a9 t9 aQ bP;go_upto_region 14 with (at_builtin;refine Mo rfl _ _ rfl y.heap.size gn _ rfl t7.out aW.symm ⟨W3.heap.size,0,none⟩ 1 rfl p1 t8.out bP.out t9.out ?_;intro g7 a0 w7 h7 bf ce;have b8:=Mod.grown (S:=fun k=>(Value.slice go gn gc).ownBlock=some k) bf (fun k hk=>hk);have aU:=b8.ar aQ.out (fun e=>Bo t7.row aQ.out (by decide) e);have k7:=Aa aU 0;have f7:=Af aU 0;simp at k7;replace ⟨h7,bf,aU⟩:=H3 h7 bf aU;clear b8 ce);have bM:=Am aU.out 0 (.slice (some ⟨g7,0,none⟩) (gn+1) a0)
       have h8:=h7.mod (Mod.setCell (S:=fun k=>k=hb) w7 hb 0 (.slice (some ⟨g7,0,none⟩) (gn+1) a0) rfl) (fun k hk e=>by
        subst e
        exact Bo h7.row aU.out (by decide) hk)
       have bC:=a9.grown bf.out t9.out (fun k hk=>(t7.lt k hk).1);have bD:BW y.heap.size y (w7.setCell ⟨hb,0,none⟩ (.slice (some ⟨g7,0,none⟩) (gn+1) a0)):=B9 bC bO.out;rw [<- t.out] at h8;clear x0 x1 m0;replace ⟨bM,h8,bC,bD⟩:=H4 bM h8 bC bD;go_wp2_with fail;go_roundw
       case rel=>exact ⟨n+1,_,_,_,by go_num,by omega,bD,Hh (by simpa using bM.out),h8⟩
       case measure=>simp [intOf];omega
      .have t:Ll x.pl (n+1)=Ll x.pl n:=(by rw [ao.out,Ac q2,Oz]);have q3:(p2 == (0:Int))=false:=(by simpa using q2);have bd:=bc.out;rw [<- t] at bd;replace ⟨t,bd⟩:=H2 t bd;go_wp2_with fail;go_roundw
       case rel=>exact ⟨n+1,_,_,_,by go_num,by omega,a1,ad,bd⟩
       case measure=>simp [intOf];omega
     .have ci:¬ (n:Int)<pn:=(by omega);have bX:Ll x.pl n=Pr x.pl:=(by unfold Ll Pr;rw [C8 (by have:=a6.out;omega)]);have bL:=hI.out;rw [bX] at bL;have q0:=Bk aC.out 0 (.slice go gn gc) rfl;have q1:=Bk aC.out 1 (.int .i64 da) rfl;have q2:=Bk aC.out 2 (.int .i64 db) rfl;have q3:=Bk aC.out 3 (.int .i64 dc) rfl;have q4:=Bk aC.out 4 (.int .i64 dd) rfl;have q5:=Bk aC.out 5 (.int .i64 lt) rfl;have ba:=i.drop a8.out;have hA:=(Below.refl wr.heap.size wr).alloc Ln (.cells #[.slice go gn gc,.int .i64 da,.int .i64 db,.int .i64 dc,.int .i64 dd,.int .i64 lt] 261);have bb:=ba.drop hA;have b0:=bb.ai;have bK:=(bL.le (B':=w.heap.size) i.low.size).mod (Mod.af (S:=fun _=>False) hA) (fun _ _ c=>c);have tA:(wr.alloc (.cells #[.slice go gn gc,.int .i64 da,.int .i64 db,.int .i64 dc,.int .i64 dd,.int .i64 lt] 261)).heap[wr.heap.size]?=some (.cells (Pl.Ay.cells ⟨go,gn,gc,Pr x.pl,⟨da,db,dc,dd⟩,lt⟩) 261 (0,0)):=Ah _ _
      have aJ:∀ u∈(Pl.Ay.cells ⟨go,gn,gc,Pr x.pl,⟨da,db,dc,dd⟩,lt⟩).toList,u.oneCell'=true:=by intro u hu;simp at hu;rcases hu with rfl | rfl | rfl | rfl | rfl | rfl<;>rfl
      have o:=bb.low.size
      have a4:hn<=1000000:=by
       have h1:=aX.out;have h2:=Ca List.length hE.out;simp only [At] at h2;have h3:(Dy (T.pl.ab.take k)).length<=(T.pl.ab.take k).length:=(by unfold Dy;rw [At];exact Nr _ _);have h4:=Pz k T.pl.ab;omega
      clear bL;replace ⟨bX,ba,hA,bb,b0,bK,tA,aJ⟩:=H8 bX ba hA bb b0 bK tA aJ;replace ⟨o,a4,aW⟩:=H3 o a4 aW;go_wp2_with (at_builtin;refine Abo (cells:=Pl.Ay.cells) (sz:=6) rfl _ _ 212 rfl w.heap.size cc _ 64 underlying212 aG.out aP.out aA.out aB.out rfl (I3 _) (by decide) (fun _=>rfl) (.slice bv hn hc) rfl hn b0.out aX.symm wr.heap.size 1 rfl ⟨go,gn,gc,Pr x.pl,⟨da,db,dc,dd⟩,lt⟩ aJ.out tA.out a4.out o.out ?_;intro g9 b4 w9 h9 bR b5;replace ⟨h9,bR,b5⟩:=H3 h9 bR b5);have bI:=ba.hold hA.out bR.out h9.out bK.out
      have bF:(hs++[(⟨go,gn,gc,Pr x.pl,⟨da,db,dc,dd⟩,lt⟩:Pl.Ay)]).map Pl.Ay.er=(Dy (T.pl.ab.take (k+1))).map Jd:=by
       have:=aY.out;simp at this;rw [this,C9,C9,hE.out];have e:Pl.Ay.er ⟨go,gn,gc,Pr x.pl,⟨da,db,dc,dd⟩,lt⟩=Jd (Pr x.pl,x.pl.sp.cq,Ke x.pl):=(by rw [<- aE.out,<- bk.out];rfl);simp only [Ka,Tf];rw [e];rfl
      clear q0 q1 q2 q3 q4 q5;replace ⟨bI,bF⟩:=H2 bI bF;go_roundw
      case rel=>exact ⟨k+1,_,by go_num,by omega,bI,bF⟩
      case measure=>simp [intOf];omega
  .have cf:¬ (k:Int)<m:=(by omega);have cy:k=m:=(by omega);have aM:T.pl.ab.take k=T.pl.ab:=C8 (by have:=bo.out;omega);have i:=hH.out;have aT:=hE.out;rw [aM] at i aT;have an:T.pl.ab.length<=1000:=(by have:=bo.out;omega);replace ⟨aX,aN,aM,i,aT,an⟩:=H6 aX aN aM i aT an;go_wp2_with fail;exact Ak (v:=.tuple #[.slice bv hn hc,.slice b3 un uc]) (by simp [results,results135,go_sem]) rfl (i.post aT.out an.out)
def Ayk:(prog.info? 159).map (fun i=>(i.zero,i.size,i.bytes))=some (some (.agg #[.bool false,.bool false,.int .i64 0]),3,16):=by kernel_rfl
structure Sz (w:WD) (fv:VL) (k:Nat) (ns:VL) (wr:WD):Prop where
 low:BW w.heap.size w wr
 arg:wr.heap[w.heap.size]?=some (.cells #[fv] 54 (0,0))
 res:wr.heap[w.heap.size+1]?=some (.cells #[.slice none 0 0,.int .i64 0,.int .i64 0,.slice none 0 0,.slice none 0 0,.slice none 0 0] 59 (0,0))
 tab:wr.heap[w.heap.size+2]?=some (.cells #[fv,.int .i64 0,.int .i64 (-1),.slice none 0 0,ns,.slice none 0 0] 59 (0,0))
 row:Be Eb 3 159 wr (w.heap.size+3) ns (List.replicate k j8)
def Sz.drop {w wr w':WD} {b c:VL} {k:Nat} (h:Sz w b k c wr) (a:BW wr.heap.size wr w'):Sz w b k c w':=
 ⟨h.low.trans (a.mono h.low.size),Ae a h.arg (Ab h.arg),Ae a h.res (Ab h.res),Ae a h.tab (Ab h.tab),h.row.low a⟩
def Ayl (fv:VL) (w:WD) (e:Ending) (w':WD):Prop:=∃ so n c,e=.returned (.agg #[fv,.int .i64 0,.int .i64 (-1),.slice none 0 0,.slice so n c,.slice none 0 0])/\BW w.heap.size w w'
def Aym (h:Option Addr) (fn g:Nat) (hn:fn<=4096) (w:WD):Calls prog 48 #[.agg #[.slice h fn g]] w (Ayl (.slice h fn g) w):=by
 obtain ⟨W0,y⟩:=Ex (((w.alloc (.cells #[.slice h fn g] 54 (0,0))).alloc (.cells #[.slice none 0 0,.int .i64 0,.int .i64 0,.slice none 0 0,.slice none 0 0,.slice none 0 0] 59 (0,0))).alloc (.cells #[.slice h fn g,.int .i64 0,.int .i64 (-1),.slice none 0 0,.slice none 0 0,.slice none 0 0] 59 (0,0)));have t:Sz w (.slice h fn g) 0 (.slice none 0 0) W0:=by rw [y];exact ⟨(Bn.alloc (by simp) _).alloc (by simp;omega) _,Aj _ (Aj _ (Ah _ _)),Aj _ (A3 _ _ (by simp)),A3 _ _ (by simp),Be.nil _ _ _ _ _⟩
 obtain ⟨iN,ac,am,o,p⟩:=Cb Ayk;replace ⟨t,ac,am,o,p⟩:=H5 t ac am o p;go_enter func48,ntmps48;go_upto_region 2 with fail;rw [<- y];clear y;go_wp2_with fail;go_loopw [4] (fun iv wr=>∃ (k:Nat) (so:Option Addr) (n c:Nat),iv=.int .i64 k/\k<=fn/\Hid (Sz w (.slice h fn g) k (.slice so n c) wr)) (fun iv _=>fn-(intOf iv).toNat)
 case atStart=>exact ⟨0,none,0,0,rfl,Aq _,t⟩
 case round=>
  obtain ⟨k,so,n,c,rfl,hk,b⟩:=hrel;have a0:=Bk b.arg 0 (.slice h fn g) rfl;by_cases hc:k<fn
  .have ao:(k:Int)<fn:=(by omega);have aA:(0:Int)<=(k:Int):=(by omega);have t4:=Bk b.tab 4 (.slice so n c) rfl;have hA:=(Below.refl wr.heap.size wr).alloc Ln (.cells #[.bool false,.bool false,.int .i64 (-1)] 159);have a:=b.drop hA;have ai:=a.row;have al:(wr.alloc (.cells #[.bool false,.bool false,.int .i64 (-1)] 159)).heap[wr.heap.size]?=some (.cells (Eb j8) 159 (0,0)):=Ah _ _
   have m:∀ u∈(Eb j8).toList,u.oneCell'=true:=by intro u hu;simp at hu;rcases hu with rfl | rfl | rfl<;>rfl
   have j:(List.replicate k j8).length=k:=Yq;have ap:k<=1000000:=(by omega);have z:w.heap.size+3<=(wr.alloc (.cells #[.bool false,.bool false,.int .i64 (-1)] 159)).heap.size:=(by have:=Ab a.tab;omega);have av:n=k:=by obtain ⟨aB,n',c',e,h1,_⟩:=b.row.len;injection e with _ e;omega
   have d:∀ s:WD,(wr.alloc (.cells #[.bool false,.bool false,.int .i64 (-1)] 159)).grownBy s (Value.slice so n c).ownBlock->s.heap[w.heap.size+2]?=some (.cells #[.slice h fn g,.int .i64 0,.int .i64 (-1),.slice none 0 0,.slice so n c,.slice none 0 0] 59 (0,0))/\s.heap[w.heap.size]?=some (.cells #[.slice h fn g] 54 (0,0))/\s.heap[w.heap.size+1]?=some (.cells #[.slice none 0 0,.int .i64 0,.int .i64 0,.slice none 0 0,.slice none 0 0,.slice none 0 0] 59 (0,0)):=fun s hg=>by
    have hm:=Mod.grown (S:=fun q=>(Value.slice so n c).ownBlock=some q) hg (fun q hq=>hq);exact ⟨hm.ar a.tab (Bo a.row.row a.tab (by decide)),hm.ar a.arg (Bo a.row.row a.arg (by decide)),hm.ar a.res (Bo a.row.row a.res (by decide))⟩
   subst av;replace ⟨hA,a,ai,al,m,j,z,d⟩:=H8 hA a ai al m j z d;go_wp2_with (at_builtin;refine Abo (cells:=Eb) (sz:=3) rfl _ _ 56 rfl (w.heap.size+3) iN _ 16 underlying56 ac.out am.out o.out p.out rfl (I3 _) (by decide) (fun _=>rfl) (.slice so n c) rfl n ai.out j.out wr.heap.size 1 rfl j8 m.out al.out ap z.out ?_;intro g9 i s h9 r an;obtain ⟨f1,f2,f3⟩:=d s r;have f4:=Aa f1 4;have f5:=Af f1 4;simp at f4;replace ⟨h9,r,f1,f2,f3⟩:=H5 h9 r f1 f2 f3;clear an)
   have x:Sz w (.slice h fn g) (n+1) (.slice (some ⟨g9,0,none⟩) (n+1) i) (s.setCell ⟨w.heap.size+2,4,none⟩ (.slice (some ⟨g9,0,none⟩) (n+1) i)):=by
    have hm:=Mod.setCell (S:=fun q=>q=w.heap.size+2) s (w.heap.size+2) 4 (.slice (some ⟨g9,0,none⟩) (n+1) i) rfl;have ad:=(a.low).grown r.out a.low.size (fun q hq=>by have:=a.row.lt q hq;omega);refine ⟨B9 ad (by omega),hm.ar f2.out (by omega),hm.ar f3.out (by omega),?_,?_⟩
    .rw [Am f1.out];rfl
    .rw [List.replicate_succ']
     exact h9.mod hm (fun q hq e=>by
      subst e
      exact Bo h9.row f1.out (by decide) hq)
   replace x:=Hh x;go_wp2_with fail;go_roundw
   case rel=>exact ⟨n+1,_,_,_,by go_num,by omega,x⟩
   case measure=>simp [intOf];omega
  .have ao:¬ (k:Int)<fn:=(by omega);have t0:=Bk b.tab 0 (.slice h fn g) rfl;have t1:=Bk b.tab 1 (.int .i64 0) rfl;have t2:=Bk b.tab 2 (.int .i64 (-1)) rfl;have t3:=Bk b.tab 3 (.slice none 0 0) rfl;have t4:=Bk b.tab 4 (.slice so n c) rfl;have t5:=Bk b.tab 5 (.slice none 0 0) rfl;have r0:=Aa b.res 0;have r1:=Aa b.res 1;have r2:=Aa b.res 2;have r3:=Aa b.res 3;have r4:=Aa b.res 4;have r5:=Aa b.res 5;simp at r0 r1 r2 r3 r4 r5;have fr:=Af b.res;have l:=b.low
   have f:BW w.heap.size w ((((((wr.setCell ⟨w.heap.size+1,0,none⟩ (.slice h fn g)).setCell ⟨w.heap.size+1,1,none⟩ (.int .i64 0)).setCell ⟨w.heap.size+1,2,none⟩ (.int .i64 (-1))).setCell ⟨w.heap.size+1,3,none⟩ (.slice none 0 0)).setCell ⟨w.heap.size+1,4,none⟩ (.slice so n c)).setCell ⟨w.heap.size+1,5,none⟩ (.slice none 0 0)):=
    B9 (B9 (B9 (B9 (B9 (B9 l (by omega)) (by omega)) (by omega)) (by omega)) (by omega)) (by omega)
   replace ⟨l,f⟩:=H2 l f;go_wp2_with fail;exact Ak (v:=.agg #[.slice h fn g,.int .i64 0,.int .i64 (-1),.slice none 0 0,.slice so n c,.slice none 0 0]) (by simp [results,results48,go_sem,r0,r1,r2,r3,r4,r5]) rfl ⟨so,n,c,rfl,f.out⟩
