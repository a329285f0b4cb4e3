/- Parts of a proof. No condition. -/
import Derived.Test.YtimlcnhcjndijaaGreatDoorF19
set_option linter.all false
set_option maxRecDepth 100000
set_option maxHeartbeats 3200000
namespace Go.Proofs.YtimlcnhcjndijaaGreatDoor
open Go renaming World->WD,Value->VL,Calls->CS
open Go.RowKit renaming Below->BW
open Go.Proofs.Tryz
section
open Go.RowKit Go.Maps Go.Lib
structure Gw (w0 w':WD) (x y:aj):Prop where
 pl:y.pl=x.pl
 sn:y.sn=x.sn
 gn:y.gn=x.gn
 pn:y.pn=x.pn
 after:Ar w' y.so y.sn x.pl.sp.after
 oi:y.sn<=y.sc
 tl:∀ b o,y.so=some ⟨b,o,none⟩->w0.heap.size<=b
 vu:∀ b o,y.so=some ⟨b,o,none⟩->∃ cc,w'.heap[b]?=some (.cells cc 3 (0,0))
 ak:Ar w' y.go y.gn x.pl.ak
 mw:y.gn<=y.gc
 tm:∀ b o,y.go=some ⟨b,o,none⟩->w0.heap.size<=b
 wj:∀ b o,y.go=some ⟨b,o,none⟩->∃ cc,w'.heap[b]?=some (.cells cc 3 (0,0))
 parts:w'.ownsRow w0.heap.size 65 2 (.slice y.po y.pn y.pc) y.pn (Au E1 x.pl.parts)
def Ai7 (w:WD) (x:aj) (e:Ending) (w':WD):Prop:=∃ y,e=.returned y.val/\Gw w w' x y/\BW w.heap.size w w'
structure Lm (w:WD) (y:aj) (W:WD):Prop where
 low:BW w.heap.size w W
 res:W.heap[w.heap.size]?=some (.cells aj.zero.cells 46 (0,0))
 cp:W.heap[w.heap.size+1]?=some (.cells y.cells 46 (0,0))
def Lm.next {w W b:WD} {y:aj} (h:Lm w y W) (a:BW W.heap.size W b):Lm w y b:=
 ⟨h.low.trans (a.mono h.low.size),Ae a h.res (Ab h.res),Ae a h.cp (Ab h.cp)⟩
def Lm.set {w W:WD} {y z:aj} (h:Lm w y W) (o:Nat) (v:VL) (e:y.cells.setIfInBounds o v=z.cells):Lm w z (W.setCell ⟨w.heap.size+1,o,none⟩ v):=
 ⟨⟨h.low.os,h.low.tape,h.low.output,by have:=h.low.size;simpa [World.setCell] using this,fun k a=>(Cm _ _ _ _ (fun e=>by simp at e;omega)).trans (h.low.block k a)⟩,(Cm _ _ _ _ (fun e=>by simp at e)).trans h.res,by rw [<- e];exact Am h.cp _ _⟩
def Kr:(prog.info? 46).map (·.size)=some 22:=by kernel_rfl
def Q2 {B:Nat} {a w:WD} (h:BW B a w) {g:Nat} (d:B<=g) (c:Array VL):BW B a (w.setRow g c):=
 ⟨h.os,h.tape,h.output,by have:=h.size;simpa [World.setRow] using this,fun k b=>(Te w g k c (by omega)).trans (h.block k b)⟩
def Lm.new (w:WD) (x:aj):Lm w x (((w.alloc (.cells Jz 46)).alloc (.cells Jz 46)).setRow (w.heap.size+1) x.cells):=
 ⟨Q2 (Bn.alloc (by simp) _) (by omega) _,(Te _ _ _ _ (by omega)).trans (Aj _ (Ah _ _)),My _ _ _ _ _ _ (A3 _ _ (by simp))⟩
def Ai8 {S:Nat->Prop} {w:WD} {g:Nat} (c:Array VL) (_:w=w) (h:S g):Mod S w (w.setRow g c):=⟨rfl,rfl,rfl,by simp [World.setRow],fun k _ a=>Te w g k c (fun e=>a (e▸h))⟩
def Sx (a k:Nat):Prop:=k=a\/k=a+1
def X5 {w:WD} {B B' size n:Nat} {T:TypeId} {v:VL} {xs:List VL} (h:w.ownsRow B T size v n xs) (a:B'<=B):w.ownsRow B' T size v n xs:=
 ⟨h.1,h.2.imp id fun ⟨g,cap,cur,e,hg,r⟩=>⟨g,cap,cur,e,A5 a hg,r⟩⟩
def Pt (x:aj):x.cells.all (·.oneCell')=true:=by simp [aj.cells,Value.oneCell']
def Ai9 {w:WD} {b:Nat} {x:aj} {S:Nat->Prop} (a:Bb w b x) (q:N6 w S x) (h1:x.sn<=1000) (h2:x.gn<=1000) (h3:x.pn<=1000000) :
  CS prog 47 #[.pointer (some ⟨b,0,none⟩)] w (Ai7 w x):=by
 have ao:=Ab a;have g:=Lm.new w x;obtain ⟨W1,r⟩:=Ex (((w.alloc (.cells Jz 46)).alloc (.cells Jz 46)).setRow (w.heap.size+1) x.cells);rw [<- r] at g;have av:w.heap.size+2=W1.heap.size:=by rw [r];simp [World.setRow]
 have z:(w.alloc (.cells Jz 46)).heap[b]?=some (.cells x.cells 46 (0,0)):=Aj _ a;have ad:((w.alloc (.cells Jz 46)).alloc (.cells Jz 46)).heap[w.heap.size+1]?=some (.cells Jz 46 (0,0)):=A3 _ _ (by simp);have x1:=Bk (Ae g.low a ao) 13 (.slice x.so x.sn x.sc) rfl;have al:∀ W,BW w.heap.size w W->CS prog 87 #[.slice x.so x.sn x.sc] W (Tt x.sn x.pl.sp.after W):=fun W hW=>X3 _ _ _ _ _ (q.after.row.low hW) h1;have am:∀ W,BW w.heap.size w W->CS prog 87 #[.slice x.go x.gn x.gc] W (Tt x.gn x.pl.ak W):=fun W hW=>X3 _ _ _ _ _ (q.ak.row.low hW) h2;have an:∀ W,BW w.heap.size w W->CS prog 88 #[.slice x.po x.pn x.pc] W (X4 W x):=fun W hW=>Awa (Bv.low q.parts hW) h3;have k1:=al _ g.low;replace ⟨a,q,h1,h2,h3,g,al,am⟩:=H8 a q h1 h2 h3 g al am;replace ⟨an,k1,z,ad,av⟩:=H5 an k1 z ad av;go_enter func47,ntmps47;go_upto_region 2 with (first | (refine Vh rfl 46 _ rfl b rfl 46 x.cells (0,0) _ (by first | exact z.out | exact a.out) Re rfl Kr ?_) | (refine Nu rfl 46 _ _ rfl (w.heap.size+1) x.cells rfl rfl 46 _ ad.out Kr rfl (Pt x) ?_));rw [<- r];clear r z ad;go_wp2_with fail;refine k1.mono ?_;rintro e w2 ⟨s1,c1,rfl,q1,i1,f1,b1⟩;have j:=g.next b1;have aF:=Bk j.cp 13 (.slice x.so x.sn x.sc) rfl;have aC:=Af j.cp;have h:Lm w { x with so:=s1,sc:=c1 } (w2.setCell ⟨w.heap.size+1,13,none⟩ (.slice s1 x.sn c1)):=j.set 13 _ rfl;obtain ⟨W3,s⟩:=Ex (w2.setCell ⟨w.heap.size+1,13,none⟩ (.slice s1 x.sn c1));rw [<- s] at h;have x2:=Bk (Ae h.low a.out ao) 20 (.slice x.go x.gn x.gc) rfl;have k2:=am _ h.low;replace ⟨q1,i1,f1,b1,j,h,k2⟩:=H7 q1 i1 f1 b1 j h k2;clear x1;go_upto_region 3 with fail;rw [<- s];have aA:=Hh s;clear s aF aC;go_wp2_with fail;refine k2.mono ?_;rintro e w4 ⟨s2,c2,rfl,q2,i2,f2,b2⟩;have l:=h.next b2;have aG:=Bk l.cp 20 (.slice x.go x.gn x.gc) rfl;have aD:=Af l.cp;have i:Lm w { x with so:=s1,sc:=c1,go:=s2,gc:=c2 } (w4.setCell ⟨w.heap.size+1,20,none⟩ (.slice s2 x.gn c2)):=l.set 20 _ rfl;obtain ⟨W5,t⟩:=Ex (w4.setCell ⟨w.heap.size+1,20,none⟩ (.slice s2 x.gn c2));rw [<- t] at i;have x3:=Bk (Ae i.low a.out ao) 21 (.slice x.po x.pn x.pc) rfl;have k3:=an _ i.low;replace ⟨q2,i2,f2,b2,l,i,k3⟩:=H7 q2 i2 f2 b2 l i k3;clear x2;go_upto_region 4 with fail;rw [<- t];have aB:=Hh t;clear t aG aD;go_wp2_with fail;refine k3.mono ?_;rintro e w6 ⟨s3,c3,rfl,o3,b3⟩;have m:=i.next b3;have aH:=Bk m.cp 21 (.slice x.po x.pn x.pc) rfl;have aE:=Af m.cp;have d:Lm w { x with so:=s1,sc:=c1,go:=s2,gc:=c2,po:=s3,pc:=c3 } (w6.setCell ⟨w.heap.size+1,21,none⟩ (.slice s3 x.pn c3)):=m.set 21 _ rfl;obtain ⟨W7,u⟩:=Ex (w6.setCell ⟨w.heap.size+1,21,none⟩ (.slice s3 x.pn c3));rw [<- u] at d
 have b7:∀ S:Nat->Prop,S (w.heap.size+1)->Mod S w6 W7:=fun S hS=>by rw [u];exact Mod.setCell _ _ _ _ hS
 obtain ⟨y,hy⟩:∃ y:aj,y={ x with so:=s1,sc:=c1,go:=s2,gc:=c2,po:=s3,pc:=c3 }:=⟨_,rfl⟩;rw [<- hy] at d;have ap:=d.cp;have ac:=d.res;have n:(W7.setRow w.heap.size y.cells).heap[w.heap.size]?=some (.cells y.cells 46 (0,0)):=My _ _ _ _ _ _ ac;have p:=Q2 d.low Ln y.cells
 have f:Ai7 w x (.returned y.val) (W7.setRow w.heap.size y.cells):=by
  have m3:Mod (Sx w.heap.size) w2 W3:=by rw [aA.out];exact Mod.setCell _ _ _ _ (.inr rfl)
  have m5:Mod (Sx w.heap.size) w4 W5:=by rw [aB.out];exact Mod.setCell _ _ _ _ (.inr rfl)
  have m7:Mod (Sx w.heap.size) w6 W7:=b7 _ (.inr rfl);have me:Mod (Sx w.heap.size) W7 (W7.setRow w.heap.size y.cells):=Ai8 _ rfl (.inl rfl);have M6:=m7.trans me;have M4:=(m5.trans (Mod.af b3)).trans M6;have M2:=(m3.trans (Mod.af b2.out)).trans M4;have n1:=av.out;have n3:=m3.size;have n2:=b1.size;have n4:=b2.size;have n5:=m5.size;have j1:=(D7.mod (⟨i1.out,fun _ b o e c=>by obtain ⟨_,e2,_⟩:=f1 b o e;rcases c with c | c<;>omega⟩:D7 w2 (Sx w.heap.size) s1 x.sn x.pl.sp.after) M2 fun _ _ c=>c).row;have j2:=(D7.mod (⟨i2.out,fun _ b o e c=>by obtain ⟨_,e2,_⟩:=f2 b o e;rcases c with c | c<;>omega⟩:D7 w4 (Sx w.heap.size) s2 x.gn x.pl.ak) M4 fun _ _ c=>c).row
  have j3:=X5 (A7 o3 M6 fun k e c=>by
   obtain ⟨_,_,e2⟩:=Cq o3 e
   rcases c with c | c<;>omega) (show w.heap.size<=W5.heap.size by omega)
  refine ⟨y,rfl,?_,p⟩;subst hy
  exact ⟨rfl,rfl,rfl,rfl,j1,q1.out,fun b o e=>by obtain ⟨_,e2,_⟩:=f1 b o e;omega,fun b o e=>by
    obtain ⟨_,e2,_,cc,e4⟩:=f1 b o e
    exact ⟨cc,M2.ar e4 (fun c=>by rcases c with c | c<;>omega)⟩,j2,q2.out,fun b o e=>by obtain ⟨_,e2,_⟩:=f2 b o e;omega,fun b o e=>by
    obtain ⟨_,e2,_,cc,e4⟩:=f2 b o e
    exact ⟨cc,M4.ar e4 (fun c=>by rcases c with c | c<;>omega)⟩,j3⟩
 replace ⟨o3,b3,m,d,b7,hy,ap,ac⟩:=H8 o3 b3 m d b7 hy ap ac;replace ⟨n,p,f⟩:=H3 n p f;clear x3;go_upto_region 5 with fail;rw [<- u];clear u aH aE;go_wp2_with (first | (refine Vh rfl 46 _ rfl (w.heap.size+1) rfl 46 y.cells (0,0) _ ap.out Re rfl Kr ?_) | ((refine Nu rfl 46 _ _ rfl w.heap.size y.cells rfl rfl 46 _ ac.out Kr rfl (Pt y) ?_)));refine Ak (v:=y.val) ?_ rfl f.out;exact results_cell_row rfl _ _ w.heap.size 46 y.cells (0,0) _ rfl n.out Re rfl Kr
def Ee {B:Nat} {a w:WD} (h:BW B a w) {g o:Nat} {v:VL} (c:B<=g):BW B a (w.setCell ⟨g,o,none⟩ v):=
 ⟨h.os,h.tape,h.output,by have:=h.size;simpa [World.setCell] using this,fun k b=>(Cm _ _ _ _ (fun e=>by simp at e;omega)).trans (h.block k b)⟩
def Ab3 {P:Program} {fn:Func} {p t0:Tmp} {a:TypeId} (h:fn.results=#[.cell p a,.tmp t0]) (tmps:Array VL) (w:WD) (g:Nat) (t:TypeId) (cs:Array VL) (fr:Nat×Nat) (d:TypeDesc)
  (i:tmps.getD p undef=.pointer (some ⟨g,0,none⟩)) (e:w.heap[g]?=some (.cells cs t fr))
  (j:P.underlying a=some d) (c:(match d with | .struct _ | .array _ _=>true | _=>false)=true) (f:(P.info? a).map (·.size)=some cs.size) :
  (results fn tmps).run P w=.ok (.tuple #[.agg cs,tmps.getD t0 undef]) w:=by
 have b:tmps[p]?.getD undef=.pointer (some ⟨g,0,none⟩):=by simpa using i
 simp [results,h,b,asAddr,run_loadVar_row w g t a cs fr d e j c f]
def X6 (w:WD) (T:Tv) (id:Int) (e:Ending) (w':WD):Prop:=
 BW w.heap.size w w'/\(((id<1\/(T.js.length:Int)<id)/\e=.returned (.tuple #[aj.zero.val,.bool false]))\/∃ (k:Nat) (j:Nat×aj) (y:aj),id=(k:Int)+1/\T.js[k]?=some j/\e=.returned (.tuple #[y.val,.bool true])/\Gw w w' j.2 y)
def Ab4 (x:aj):Prop:=x.sn<=1000/\x.gn<=1000/\x.pn<=1000000
def Gw.mod {n w' p:WD} {x y:aj} {S:Nat->Prop} (h:Gw n w' x y) (d:Mod S w' p) (f:∀ b,S b->∀ a,w'.heap[b]?≠some (.cells a 3 (0,0))/\w'.heap[b]?≠some (.cells a 65 (0,0))):Gw n p x y:=by
 obtain ⟨a1,a2,a3,q,v,r,t,l,z,s,u,m,g⟩:=h
 have i:∀ b o,y.so=some ⟨b,o,none⟩->¬ S b:=fun b o e c=>by obtain ⟨a,h⟩:=l b o e;exact (f b c a).1 h
 have j:∀ b o,y.go=some ⟨b,o,none⟩->¬ S b:=fun b o e c=>by obtain ⟨a,h⟩:=m b o e;exact (f b c a).1 h
 refine ⟨a1,a2,a3,q,?_,r,t,fun b o e=>?_,?_,s,u,fun b o e=>?_,A7 g d fun k e c=>?_⟩
 .exact (D7.mod (⟨v,fun _ b o e c=>i b o e c⟩:D7 w' S y.so y.sn x.pl.sp.after) d fun _ _ c=>c).row
 .obtain ⟨a,h⟩:=l b o e;exact ⟨a,d.ar h (i b o e)⟩
 .exact (D7.mod (⟨z,fun _ b o e c=>j b o e c⟩:D7 w' S y.go y.gn x.pl.ak) d fun _ _ c=>c).row
 .obtain ⟨a,h⟩:=m b o e;exact ⟨a,d.ar h (j b o e)⟩
 .obtain ⟨a,h,_⟩:=Cq g e;exact (f k c a).2 h
def Gw.low {b w' d:WD} {x y:aj} (h:Gw b w' x y) (a:BW w'.heap.size w' d):Gw b d x y:=
 h.mod (S:=fun _=>False) ⟨a.os,a.tape,a.output,a.size,fun k e _=>a.block k e⟩ fun _ c=>c.elim
def Gw.xi {a w' d:WD} {x y:aj} (h:Gw a w' x y) {g:Nat} {cs:Array VL} (e:w'.heap[g]?=some (.cells cs 46 (0,0))) (f:Mod (fun k=>k=g) w' d):Gw a d x y:=
 h.mod f fun b c i=>by
  subst c;rw [e];exact ⟨by simp,by simp⟩
def Gw.mono {c w1 w':WD} {x y:aj} (h:Gw c w' x y) (a:w1.heap.size<=c.heap.size):Gw w1 w' x y:=
 ⟨h.pl,h.sn,h.gn,h.pn,h.after,h.oi,fun b o e=>A5 a (h.tl b o e),h.vu,h.ak,h.mw,fun b o e=>A5 a (h.tm b o e),h.wj,X5 h.parts a⟩
def Awb {w:WD} {T:Tv} (h:An w T) (l:∀ j,j∈T.js->Ab4 j.2) (id:Int) :
  CS prog 16 #[.pointer (some ⟨T.tb,0,none⟩),.int .i64 id] w (X6 w T id):=by
 obtain ⟨W0,c⟩:=Ex (w.alloc (.cells Jz 46));have o:BW w.heap.size w W0:=by rw [c];exact Bn
 have ac:=o.size;have ad:w.heap.size<W0.heap.size:=by rw [c];simp
 have n:=h.low o;have q:W0.heap[w.heap.size]?=some (.cells aj.zero.cells 46 (0,0)):=by rw [c];exact Ah _ _
 obtain ⟨m,t⟩:=Ex (T.js.length);obtain ⟨tb,ht⟩:=Ex (T.tb)
 obtain ⟨so,cap,c4,d⟩:∃ so cap,W0.cell? ⟨T.tb,4,none⟩=some (.slice so T.js.length cap)/\T.js.length<=9223372036854775807:=by
  rcases n.ab.2 with ⟨e,h0⟩ | ⟨g,cap,am,e,_,_,h1,h2,_⟩
  .exact ⟨none,0,by rw [Aa n.head 4,h0,<- e];rfl,by omega⟩
  .exact ⟨_,_,by rw [Aa n.head 4,<- e];rfl,by unfold maxLen at h2;omega⟩
 rw [<- t,<- ht] at c4;rw [<- t] at d;rw [<- ht];by_cases q1:id<1
 .have i:X6 w T id (.returned (.tuple #[aj.zero.val,.bool false])) (W0.setRow w.heap.size aj.zero.cells):=⟨Q2 o Ln _,.inl ⟨.inl q1,rfl⟩⟩;have a:=My W0 w.heap.size _ aj.zero.cells 46 (0,0) q;replace ⟨h,l,o,n,q,t,ht,d⟩:=H8 h l o n q t ht d;replace ⟨i,a⟩:=H2 i a;go_enter func16,ntmps16;go_upto_region 1 with fail;rw [<- c];clear c;go_wp2_with (refine Nu rfl 46 _ _ rfl w.heap.size aj.zero.cells rfl rfl 46 _ q.out Kr rfl (Pt aj.zero) ?_);refine Ak (v:=.tuple #[aj.zero.val,.bool false]) ?_ rfl i.out;exact Ab3 (p:=4) (t0:=5) rfl _ _ w.heap.size 46 aj.zero.cells (0,0) _ rfl a.out Re rfl Kr
 by_cases q2:(m:Int)<id
 .have i:X6 w T id (.returned (.tuple #[aj.zero.val,.bool false])) (W0.setRow w.heap.size aj.zero.cells):=⟨Q2 o Ln _,.inl ⟨.inr (by rw [<- t];exact q2),rfl⟩⟩;have a:=My W0 w.heap.size _ aj.zero.cells 46 (0,0) q;replace ⟨h,l,o,n,q,t,ht,d⟩:=H8 h l o n q t ht d;replace ⟨i,a⟩:=H2 i a;go_enter func16,ntmps16;go_upto_region 1 with fail;rw [<- c];clear c;go_wp2_with (refine Nu rfl 46 _ _ rfl w.heap.size aj.zero.cells rfl rfl 46 _ q.out Kr rfl (Pt aj.zero) ?_);refine Ak (v:=.tuple #[aj.zero.val,.bool false]) ?_ rfl i.out;exact Ab3 (p:=4) (t0:=5) rfl _ _ w.heap.size 46 aj.zero.cells (0,0) _ rfl a.out Re rfl Kr
 obtain ⟨k,rfl⟩:∃ k:Nat,id=(k:Int)+1:=⟨(id-1).toNat,by omega⟩;have hk:k<T.js.length:=by omega
 obtain ⟨j,hj⟩:=Ge T.js k hk;obtain ⟨g,al,u,cj,_,_⟩:=n.j6 hj;rw [<- t,<- ht] at u;rw [u] at c4;injection c4 with c4;injection c4 with e1 e2 e3;subst e1;subst e3;have c4:=u;clear u e2;have f:=Ai hj;obtain ⟨s1,s2,s3⟩:=l j f;have kc:=Ai9 (n.box j f) (n.ok j f) s1 s2 s3;have ao:(k:Int)<m:=by omega
 have an:(0:Int)<=(k:Int):=by omega
 obtain ⟨b,x⟩:=j;simp only at cj kc;replace ⟨h,l,o,n,q,t,ht,hj⟩:=H8 h l o n q t ht hj;replace ⟨f,s1,s2,s3,kc⟩:=H5 f s1 s2 s3 kc;go_enter func16,ntmps16;go_upto_region 1 with fail;rw [<- c];clear c;go_wp2_with fail;refine kc.mono ?_;rintro e w2 ⟨y,rfl,hy,z⟩;have r:=Ae z q.out ad;have a:=My w2 w.heap.size _ y.cells 46 (0,0) r
 have s:X6 w T ((k:Int)+1) (.returned (.tuple #[y.val,.bool true])) (w2.setRow w.heap.size y.cells):=
  ⟨Q2 (o.trans (z.mono ac)) Ln _,.inr ⟨k,_,y,rfl,hj.out,rfl,(hy.xi r (Ai8 _ rfl rfl)).mono ac⟩⟩
 replace ⟨hy,z,r,a,s⟩:=H5 hy z r a s;clear c4 cj;go_wp2_with (refine Nu rfl 46 _ _ rfl w.heap.size y.cells rfl rfl 46 _ r.out Kr rfl (Pt y) ?_);refine Ak (v:=.tuple #[y.val,.bool true]) ?_ rfl s.out;exact Ab3 (p:=4) (t0:=5) rfl _ _ w.heap.size 46 y.cells (0,0) _ rfl a.out Re rfl Kr
def Awc:(prog.info? 46).map (fun i=>(i.zero,i.size,i.bytes))=some (some aj.zero.val,22,232):=by kernel_rfl
structure Pu (w:WD) (js:List (Nat×aj)) (sv:VL) (L:List aj) (wr:WD):Prop where
 low:BW w.heap.size w wr
 row:wr.ownsRow w.heap.size 46 22 sv L.length (Au aj.cells L)
 each:∀ (i:Nat) (y:aj),L[i]?=some y->∃ j:Nat×aj,js[i]?=some j/\Gw w wr j.2 y
def Awd (w:WD) (T:Tv) (e:Ending) (w':WD):Prop:=∃ (sv:VL) (L:List aj),e=.returned sv/\L.length=T.js.length/\Pu w T.js sv L w'
def Pu.next {w wr f t:WD} {js:List (Nat×aj)} {s v:VL} {L:List aj} {j:Nat×aj} {y:aj} (h:Pu w js s L wr) (hj:js[L.length]?=some j)
  (hy:Gw wr f j.2 y) (m:BW wr.heap.size wr f) (n:t.ownsRow w.heap.size 46 22 v (L.length+1) (Au aj.cells L++y.cells.toList)) (hg:(f.alloc (.cells y.cells 46)).grownBy t s.ownBlock) :
  Pu w js v (L++[y]) t:=by
 have d:BW f.heap.size f (f.alloc (.cells y.cells 46)):=Bn;have g:=A7 (S:=fun _=>False) h.row (Mod.af m |>.mono fun _ _ c=>c) fun _ _ c=>c;have a:=A7 (S:=fun _=>False) g (Mod.af d |>.mono fun _ _ c=>c) fun _ _ c=>c;have q:=Mod.grown hg fun _ e=>e
 have u:∀ b,s.ownBlock=some b->∀ p,(f.alloc (.cells y.cells 46)).heap[b]?≠some (.cells p 3 (0,0))/\(f.alloc (.cells y.cells 46)).heap[b]?≠some (.cells p 65 (0,0)):=fun b e p=>by
  obtain ⟨x,hc,_⟩:=Cq a e;rw [hc];exact ⟨by simp,by simp⟩
 have o:=h.low.size;refine ⟨(h.low.trans (m.mono o)).trans ?_,?_,fun i z l=>?_⟩
 .have:=(d.mono (show w.heap.size<=f.heap.size by have:=m.size;omega));exact this.trans (q.below (by have:=m.size;simp;omega) fun k e=>(Cq a e).choose_spec.2)
 .rw [Cn,N0,P7];exact n
 .by_cases hi:i<L.length
  .rw [E5 hi] at l;obtain ⟨j2,e1,e2⟩:=h.each i z l;exact ⟨j2,e1,((e2.low m).low d).mod q u⟩
  .rw [Gc (by omega)] at l;have r:i-L.length=0:=(by have:=(Ao.1 l).1;simp at this;omega);rw [r] at l;simp at l;subst l
   have:i=L.length:=by omega
   subst this;exact ⟨j,hj,((hy.low d).mod q u).mono o⟩
def Awe {w:WD} {T:Tv} (h:An w T) (ac:∀ j,j∈T.js->Ab4 j.2) (ap:T.js.length<=1000) :
  CS prog 20 #[.pointer (some ⟨T.tb,0,none⟩)] w (Awd w T):=by
 obtain ⟨i0,hi,al,am,an⟩:=Cb Awc;obtain ⟨m,hm⟩:=Ex (T.js.length);obtain ⟨tb,ht⟩:=Ex (T.tb)
 obtain ⟨so,cap,c4,q⟩:∃ so cap,w.cell? ⟨T.tb,4,none⟩=some (.slice so T.js.length cap)/\T.jv=.slice so T.js.length cap:=by
  rcases h.ab.2 with ⟨e,h0⟩ | ⟨g,cap,aB,e,_,_,h1,h2,_⟩
  .exact ⟨none,0,by rw [Aa h.head 4,h0,<- e];rfl,by rw [h0,e]⟩
  .exact ⟨_,_,by rw [Aa h.head 4,<- e];rfl,e⟩
 rw [<- hm,<- ht] at c4;rw [<- hm] at ap q;rw [<- ht];have t:Pu w T.js (.slice none 0 0) [] w:=⟨Below.refl _ _,Lv _ _ _ _,fun i y e=>by simp at e⟩;replace ⟨h,ac,hm,ht,q,t,hi,al⟩:=H8 h ac hm ht q t hi al;replace ⟨am,an⟩:=H2 am an;go_enter func20,ntmps20;go_wp2_with fail;clear c4;go_loopw [3,5,14] (fun s0 _ iv wr=>∃ (k:Nat) (L:List aj) (sv:VL),sv=s0/\iv=.int .i64 k/\k<=m/\Hid (L.length=k)/\Hid (Pu w T.js sv L wr)) (fun _ _ iv _=>m-(intOf iv).toNat)
 case atStart=>exact ⟨0,[],_,rfl,rfl,Aq _,rfl,t.out⟩
 case round=>
  obtain ⟨k,L,sv,rfl,rfl,aD,hL,hG⟩:=hrel;by_cases hc:k<m
  .have ao:(k:Int)<m:=(by omega);have aC:(0:Int)<=(k:Int):=(by omega);have hA:=h.low hG.low;obtain ⟨j,hj⟩:=Ge T.js k (by have:=hm.out;omega);obtain ⟨g,aA,_,cj,_,ad⟩:=hA.j6 hj;have e1:so=some ⟨g,0,none⟩:=(by have:=q.symm.trans ad;injection this);subst e1;have a:=Ai hj;obtain ⟨s1,s2,s3⟩:=ac j a;have kc:=Ai9 (hA.box j a) (hA.ok j a) s1 s2 s3;obtain ⟨b,x⟩:=j;simp only at cj kc;replace ⟨hA,hj,ad,a,s1,s2,s3,kc⟩:=H8 hA hj ad a s1 s2 s3 kc;go_wp2_with fail;refine kc.mono ?_;rintro e w2 ⟨y,rfl,hy,l⟩;have aE:=hG.low.size;have aF:=l.size
   have p:(w2.alloc (.cells y.cells 46)).ownsRow w.heap.size 46 22 sv k (Au aj.cells L):=by have r:=hG.row;rw [hL.out] at r;exact A7 (S:=fun _=>False) (A7 (S:=fun _=>False) r (Mod.af l |>.mono fun _ _ c=>c) fun _ _ c=>c) (Mod.af Bn |>.mono fun _ _ c=>c) fun _ _ c=>c
   have z:∀ i u,y.cells.toList[i]?=some u->(w2.alloc (.cells y.cells 46)).cell? ((⟨w2.heap.size,0,none⟩:Addr).add i)=some u:=fun i u hu=>by
    rw [show ((⟨w2.heap.size,0,none⟩:Addr).add i)=⟨w2.heap.size,i,none⟩ by unfold Addr.add;split<;>simp_all,Aa (Ah _ _) i,<- hu];simp
   have o:∀ u∈y.cells.toList,u.oneCell'=true:=fun u hu=>Array.all_eq_true_iff_forall_mem.1 (Pt y) u (by simpa using hu);clear cj;replace ⟨hy,l,p,z,o⟩:=H5 hy l p z o;go_wp2_with (at_builtin;refine Ms _ rfl _ _ 57 rfl w.heap.size 46 i0 aj.zero.val 22 232 underlying57 hi.out al.out am.out an.out rfl (by decide) _ k _ rfl p.out ⟨w2.heap.size,0,none⟩ 1 1 y.cells.toList rfl rfl z.out o.out ?c3 ?c4 ?c5 ?c6)
   case c3=>
    have mx:maxLen=9223372036854775807:=(by kernel_rfl);omega
   case c4=>omega
   case c5=>simp;omega
   case c6=>
    intro v' w3 f d s;have v:=hG.next (by rw [hL.out];exact hj.out) hy.out l.out (by rw [hL.out];exact f) d;have n:(L++[y]).length=k+1:=(by rw [Cn,hL.out];rfl);replace ⟨f,d,s,v,n⟩:=H5 f d s v n;go_wp2;go_roundw
    case rel=>exact ⟨k+1,L++[y],_,rfl,by go_num,by omega,n.out,v.out⟩
    case measure=>simp [intOf];omega
  .have ao:¬ (k:Int)<m:=(by omega);have av:k=m:=(by omega);subst av;go_wp2;go_ret;exact ⟨_,L,rfl,by rw [hL.out,hm.out],hG.out⟩
def Aja (u v:V4):V4:=⟨u.a+v.a,u.b+v.b,u.c+v.c,u.d+v.d⟩
def Jm (d:Nat) (u v:V4):V4:=⟨if 0<d then u.a+v.a else u.a,if 1<d then u.b+v.b else u.b,if 2<d then u.c+v.c else u.c,if 3<d then u.d+v.d else u.d⟩
def Fn (i:Int) (j:Jb) (n:Nat) (v:V4):V4:=((j.parts.take n).filter fun p=>decide (p.1=i) && decide (p.2=0)).foldl (fun v _=>Aja v j.sp.cq) v
def Ajb (i:Int) (j:Jb) (v:V4):Fn i j 0 v=v:=rfl
def Ajc {i:Int} {j:Jb} {n:Nat} {v:V4} {p:Int×Int} (a:j.parts[n]?=some p):Fn i j (n+1) v=if (decide (p.1=i) && decide (p.2=0))=true then Aja (Fn i j n v) j.sp.cq else Fn i j n v:=by
 unfold Fn;rw [Ov,a,Nt,Kw];simp only [Option.toList_some];by_cases q:(decide (p.1=i) && decide (p.2=0))=true
 .rw [Ad q,Nv,Ad q];rfl
 .rw [Ac q,Nv,Ac q];rfl
def Ajd (i:Int) (j:Jb) (v:V4):Fn i j j.parts.length v=Rw i j v:=by
 unfold Fn Rw;rw [Oy];rfl
def mg (v:V4) (m:Int):Prop:=0<=v.a/\v.a<=m/\0<=v.b/\v.b<=m/\0<=v.c/\v.c<=m/\0<=v.d/\v.d<=m
def Aje (x:aj):Prop:=mg x.pl.sp.cq 1099511627776/\x.pn<=1000
structure Ih (w:WD) (v:V4) (wr:WD):Prop where
 low:BW w.heap.size w wr
 res:wr.heap[w.heap.size]?=some (.cells V4.zero.cells 30 (0,0))
 vec:wr.heap[w.heap.size+1]?=some (.cells v.cells 30 (0,0))
def Ih.next {w wr w':WD} {v:V4} (h:Ih w v wr) (a:BW wr.heap.size wr w'):Ih w v w':=
 ⟨h.low.trans (a.mono h.low.size),Ae a h.res (Ab h.res),Ae a h.vec (Ab h.vec)⟩
def Ih.set {w wr:WD} {v u:V4} (h:Ih w v wr) (o:Nat) (x:VL) (e:v.cells.setIfInBounds o x=u.cells):Ih w u (wr.setCell ⟨w.heap.size+1,o,none⟩ x):=
 ⟨Ee h.low (by omega),(Cm _ _ _ _ (fun e=>by simp at e)).trans h.res,by rw [<- e];exact Am h.vec _ _⟩
def Ih.new (w:WD):Ih w V4.zero ((w.alloc (.cells V4.zero.cells 30)).alloc (.cells V4.zero.cells 30)):=
 ⟨Bn.alloc (by simp) _,Aj _ (Ah _ _),A3 _ _ (by simp)⟩
def Iz (i:Int) (js:List Jb) (k:Nat):V4:=(js.take k).foldl (fun v j=>Rw i j v) ⟨0,0,0,0⟩
def X7 {P:Program} {b:Array Oper} {rest:List Oper} {o:Oper} {a:Act} {w:WD} {Q:Exit->Act->WD->Prop} (c:o.guard=none) (t:TypeId) (x d:Operand) (f:o.op=.index t x d) (v:VL)
  (g:(Instr.index t (a.eval x) (a.eval d)).run P w=.ok v w) (h:wpList P b Q rest (a.put o.dst v) w):wpList P b Q (o :: rest) a w:=
 wpList_plain c fun _ e=>by
  unfold Oper.wp execOp;simp only [f,g,Sem.run_bind,Sem.run_pure,Result.andThen_ok];exact e _ _ h
def yl (a b c d:Int) (w:WD):(Instr.index 30 (.agg #[.int .i64 a,.int .i64 b,.int .i64 c,.int .i64 d]) (.int .i64 0)).run prog w=.ok (.int .i64 a) w:=by kernel_rfl
def ym (a b c d:Int) (w:WD):(Instr.index 30 (.agg #[.int .i64 a,.int .i64 b,.int .i64 c,.int .i64 d]) (.int .i64 1)).run prog w=.ok (.int .i64 b) w:=by kernel_rfl
def yo (a b c d:Int) (w:WD):(Instr.index 30 (.agg #[.int .i64 a,.int .i64 b,.int .i64 c,.int .i64 d]) (.int .i64 2)).run prog w=.ok (.int .i64 c) w:=by kernel_rfl
def yp (a b c d:Int) (w:WD):(Instr.index 30 (.agg #[.int .i64 a,.int .i64 b,.int .i64 c,.int .i64 d]) (.int .i64 3)).run prog w=.ok (.int .i64 d) w:=by kernel_rfl
def Awf {w:WD} {T:Tv} (h:An w T) (hd:∀ j,j∈T.js->Aje j.2) (a2:T.js.length<=1000) (node:Int) :
  CS prog 17 #[.pointer (some ⟨T.tb,0,none⟩),.int .i64 node] w fun e w'=>e=.returned (L5 T.pl.ab node).val/\BW w.heap.size w w':=by
 obtain ⟨m,hm⟩:=Ex (T.js.length);obtain ⟨tb,ht⟩:=Ex (T.tb);have al:=Ih.new w;obtain ⟨W0,aJ⟩:=Ex ((w.alloc (.cells #[.int .i64 0,.int .i64 0,.int .i64 0,.int .i64 0] 30)).alloc (.cells #[.int .i64 0,.int .i64 0,.int .i64 0,.int .i64 0] 30));have al:Ih w V4.zero W0:=by rw [aJ];exact al
 have av:=h.low al.low
 obtain ⟨so,cap,c4,aG⟩:∃ so cap,W0.cell? ⟨T.tb,4,none⟩=some (.slice so T.js.length cap)/\T.jv=.slice so T.js.length cap:=by
  rcases av.ab.2 with ⟨e,h0⟩ | ⟨g,cap,be,e,_,_,h1,h2,_⟩
  .exact ⟨none,0,by rw [Aa av.head 4,h0,<- e];rfl,by rw [h0,e]⟩
  .exact ⟨_,_,by rw [Aa av.head 4,<- e];rfl,e⟩
 rw [<- hm,<- ht] at c4;rw [<- hm] at a2 aG;rw [<- ht];replace ⟨h,hd,hm,ht,aG,al,av⟩:=H7 h hd hm ht aG al av;go_enter func17,ntmps17;go_upto_region 2 with fail;rw [<- aJ];clear aJ;go_wp2_with fail;clear c4;go_loopw [7,9,10,11,21,30,48] (fun _ _ _ _ iv _ _ wr=>∃ (k:Nat),iv=.int .i64 k/\k<=m/\Hid (Ih w (Iz node T.pl.ab k) wr)/\Hid (mg (Iz node T.pl.ab k) (1099511627776*(1000*(k:Int))))) (fun _ _ _ _ iv _ _ _=>m-(intOf iv).toNat)
 case atStart=>exact ⟨0,rfl,Aq _,al.out,Hh (by simp [Iz,mg])⟩
 case round=>
  obtain ⟨k,rfl,bk,t,aN⟩:=hrel;by_cases hc:k<m
  .have aY:(k:Int)<m:=(by omega);have bi:(0:Int)<=(k:Int):=(by omega);have hA:=h.low t.low;obtain ⟨j,hj⟩:=Ge T.js k (by have:=hm.out;omega);obtain ⟨g,a5,_,cj,_,aM⟩:=hA.j6 hj;have e1:so=some ⟨g,0,none⟩:=(by have:=aG.symm.trans aM;injection this);subst e1;have r:=Ai hj;obtain ⟨q,aO⟩:=hd j r;obtain ⟨b,x⟩:=j;have aL:T.pl.ab[k]?=some x.pl:=(by simp [Tv.pl,hj]);have z:∀ W,BW w.heap.size w W->Bb W b x:=fun W hW=>(h.low hW).box _ r;have ad:∀ W,BW w.heap.size w W->Bv W x:=fun W hW=>((h.low hW).ok _ r).parts;have ac:=Jt (ad w (Below.refl _ _));obtain ⟨A,aE⟩:=Ex (Iz node T.pl.ab k);have aD:Iz node T.pl.ab (k+1)=Fn node x.pl x.pn A:=(by rw [<- ac,Ajd,aE];unfold Iz;rw [Ov,aL,Kw];rfl);rw [<- aE] at t aN;have aB:=z _ t.low;simp only at cj q aO;have aP:=Bk aB 21 (.slice x.po x.pn x.pc) rfl;obtain ⟨⟨da,db,dc,dd⟩,o⟩:∃ d,d=x.pl.sp.cq:=⟨_,rfl⟩;rw [<- o] at q;obtain ⟨po,aH⟩:=Ex (x.po);obtain ⟨pn,s⟩:=Ex (x.pn);rw [<- aH,<- s] at aP;rw [<- s] at aO ac aD;replace ⟨hA,hj,aM,r,q,aL,z,ad⟩:=H8 hA hj aM r q aL z ad;replace ⟨ac,aE,aD,aB,o,aH,s⟩:=H7 ac aE aD aB o aH s;go_wp2_with fail;clear cj aP;go_loopw [9,10,11,30,48] (fun _ _ _ iv _ wr=>∃ (n:Nat),iv=.int .i64 n/\n<=pn/\Hid (Ih w (Fn node x.pl n A) wr)/\Hid (mg (Fn node x.pl n A) (1099511627776*(1000*(k:Int)+n)))) (fun _ _ _ iv _ _=>pn-(intOf iv).toNat)
   case atStart=>exact ⟨0,rfl,Aq _,t.out,Hh (by have:=aN.out;rw [Ajb];simpa using this)⟩
   case round=>
    obtain ⟨n,rfl,bn,am,aA⟩:=hrel;by_cases aZ:n<pn
    .have a0:(n:Int)<pn:=(by omega);have bl:(0:Int)<=(n:Int):=(by omega);obtain ⟨pb,p,e,hp,c0,c1⟩:=Qj (ad _ am.low) (k:=n) (by rw [<- s.out];exact aZ);have e2:=aH.trans e;subst e2;obtain ⟨p1,p2⟩:=p;simp only at c0 c1;have ap:=Ajc (i:=node) (v:=A) hp;obtain ⟨u,hu⟩:=Ex (Fn node x.pl n A);rw [<- hu] at am aA ap;obtain ⟨W3,aF⟩:=Ex (wr.alloc (.cells #[.int .i64 p1,.int .i64 p2] 65));have aK:BW wr.heap.size wr W3:=(by rw [aF];exact Bn);have an:=am.next aK;have aI:W3.heap[wr.heap.size]?=some (.cells #[.int .i64 p1,.int .i64 p2] 65 (0,0)):=(by rw [aF];exact Ah _ _);have x0:=Bk aI 0 (.int .i64 p1) rfl;have x1:=Bk aI 1 (.int .i64 p2) rfl;have ao:=z _ an.low;have d4:W3.cell? ⟨b,4,none⟩=some (.int .i64 da):=(by rw [Aa ao 4,show da=x.pl.sp.cq.a by rw [<- o.out]];rfl);have d5:W3.cell? ⟨b,5,none⟩=some (.int .i64 db):=(by rw [Aa ao 5,show db=x.pl.sp.cq.b by rw [<- o.out]];rfl);have d6:W3.cell? ⟨b,6,none⟩=some (.int .i64 dc):=(by rw [Aa ao 6,show dc=x.pl.sp.cq.c by rw [<- o.out]];rfl);have d7:W3.cell? ⟨b,7,none⟩=some (.int .i64 dd):=(by rw [Aa ao 7,show dd=x.pl.sp.cq.d by rw [<- o.out]];rfl);replace ⟨hp,e,ap,hu,aK,an,aI,ao⟩:=H8 hp e ap hu aK an aI ao;replace am:=Hh am;go_upto_region 10 with fail;rw [<- aF];clear aF c0 c1;obtain ⟨a6,a7,a8,a9,ba,bb,bc,bd⟩:=aA.out;obtain ⟨aQ,aR,aS,aT,aU,aV,aW,aX⟩:=q.out;simp only at aQ aR aS aT aU aV aW aX;by_cases q1:p1=node
     .by_cases q2:p2=0
      .subst q1;subst q2;have f:Fn p1 x.pl (n+1) A=Jm 4 u ⟨da,db,dc,dd⟩:=(by rw [ap.out,<- o.out,Ad (by simp)];rfl);replace f:=Hh f;go_wp2_with fail;clear x0 x1 d4 d5 d6 d7;go_loopw [10,11,48] (fun _ _ iv wr=>∃ (d:Nat),iv=.int .i64 d/\d<=4/\Hid (Ih w (Jm d u ⟨da,db,dc,dd⟩) wr)) (fun _ _ iv _=>4-(intOf iv).toNat)
       case atStart=>exact ⟨0,rfl,by omega,an.out⟩
       case round=>
        obtain ⟨d,rfl,bg,l⟩:=hrel;by_cases bf:d<4
        .rcases (by omega:d=0\/d=1\/d=2\/d=3) with rfl | rfl | rfl | rfl
         .have u0:=Bk l.vec 0 (.int .i64 u.a) rfl;have fr:=Af l.vec;have y:Ih w (Jm 1 u ⟨da,db,dc,dd⟩) (wr.setCell ⟨w.heap.size+1,0,none⟩ (.int .i64 (u.a+da))):=l.set 0 _ rfl;replace y:=Hh y;go_wp2_with (refine X7 rfl _ _ _ rfl _ (yl _ _ _ _ _) ?_);go_roundw
          case rel=>exact ⟨1,rfl,by omega,y⟩
          case measure=>simp [intOf]
         .have u1:=Bk l.vec 1 (.int .i64 u.b) rfl;have fr:=Af l.vec;have y:Ih w (Jm 2 u ⟨da,db,dc,dd⟩) (wr.setCell ⟨w.heap.size+1,1,none⟩ (.int .i64 (u.b+db))):=l.set 1 _ rfl;replace y:=Hh y;go_wp2_with (refine X7 rfl _ _ _ rfl _ (ym _ _ _ _ _) ?_);go_roundw
          case rel=>exact ⟨2,rfl,by omega,y⟩
          case measure=>simp [intOf]
         .have u2:=Bk l.vec 2 (.int .i64 u.c) rfl;have fr:=Af l.vec;have y:Ih w (Jm 3 u ⟨da,db,dc,dd⟩) (wr.setCell ⟨w.heap.size+1,2,none⟩ (.int .i64 (u.c+dc))):=l.set 2 _ rfl;replace y:=Hh y;go_wp2_with (refine X7 rfl _ _ _ rfl _ (yo _ _ _ _ _) ?_);go_roundw
          case rel=>exact ⟨3,rfl,by omega,y⟩
          case measure=>simp [intOf]
         .have u3:=Bk l.vec 3 (.int .i64 u.d) rfl;have fr:=Af l.vec;have y:Ih w (Jm 4 u ⟨da,db,dc,dd⟩) (wr.setCell ⟨w.heap.size+1,3,none⟩ (.int .i64 (u.d+dd))):=l.set 3 _ rfl;replace y:=Hh y;go_wp2_with (refine X7 rfl _ _ _ rfl _ (yp _ _ _ _ _) ?_);go_roundw
          case rel=>exact ⟨4,rfl,by omega,y⟩
          case measure=>simp [intOf]
        .have a1:d=4:=(by omega);subst a1;go_wp2;go_roundw
         case rel=>exact ⟨n+1,by go_num,by omega,Hh (by rw [f.out];exact l.out),Hh (by rw [f.out];refine ⟨?_,?_,?_,?_,?_,?_,?_,?_⟩<;>simp [Jm]<;>omega)⟩
         case measure=>simp [intOf];omega
      .clear d4 d5 d6 d7;have f:Fn node x.pl (n+1) A=u:=(by rw [ap.out,Ac (by simp;omega)]);replace f:=Hh f;go_wp2;go_roundw
       case rel=>exact ⟨n+1,by go_num,by omega,Hh (by rw [f.out];exact an.out),Hh (by rw [f.out];refine ⟨?_,?_,?_,?_,?_,?_,?_,?_⟩<;>omega)⟩
       case measure=>simp [intOf];omega
     .clear d4 d5 d6 d7;have f:Fn node x.pl (n+1) A=u:=(by rw [ap.out,Ac (by simp;omega)]);replace f:=Hh f;go_wp2;go_roundw
      case rel=>exact ⟨n+1,by go_num,by omega,Hh (by rw [f.out];exact an.out),Hh (by rw [f.out];refine ⟨?_,?_,?_,?_,?_,?_,?_,?_⟩<;>omega)⟩
      case measure=>simp [intOf];omega
    .have a0:¬ (n:Int)<pn:=(by omega);have a4:n=pn:=(by omega);subst a4;go_wp2;go_roundw
     case rel=>exact ⟨k+1,by go_num,by omega,Hh (by rw [aD.out];exact am.out),Hh (by rw [aD.out];obtain ⟨b1,b2,b3,b4,b5,b6,b7,b8⟩:=aA.out;refine ⟨b1,?_,b3,?_,b5,?_,b7,?_⟩<;>omega)⟩
     case measure=>simp [intOf];omega
  .have aY:¬ (k:Int)<m:=(by omega);have a3:k=m:=(by omega);subst a3;obtain ⟨u,hu⟩:=Ex (Iz node T.pl.ab k);have aC:u=L5 T.pl.ab node:=(by rw [hu];unfold Iz L5;rw [C8 (by simp [Tv.pl];have:=hm.out;omega)]);rw [<- hu] at t;have u0:=Bk t.vec 0 (.int .i64 u.a) rfl;have u1:=Bk t.vec 1 (.int .i64 u.b) rfl;have u2:=Bk t.vec 2 (.int .i64 u.c) rfl;have u3:=Bk t.vec 3 (.int .i64 u.d) rfl;have r0:=Bk t.res 0 (.int .i64 0) rfl;have r1:=Bk t.res 1 (.int .i64 0) rfl;have r2:=Bk t.res 2 (.int .i64 0) rfl;have r3:=Bk t.res 3 (.int .i64 0) rfl;have fr:=Af t.res;replace ⟨hu,aC⟩:=H2 hu aC;go_wp2;refine Ak (v:=u.val) (by simp [results,results17,go_sem,r0,r1,r2,r3]) rfl ⟨by rw [aC.out],?_⟩;exact Ee (Ee (Ee (Ee t.low Ln) Ln) Ln) Ln
def j8:Fa:=⟨false,false,-1⟩
structure J7 (w:WD) (fb:Nat) (vs:List au) (kn kc:Nat) (cv nv:VL) (wr:WD):Prop where
 low:BW w.heap.size w wr
 head:wr.heap[w.heap.size]?=some (.cells #[.int .i64 0,.int .i64 (-1),.map (some (w.heap.size+1)),nv,.slice none 0 0,.pointer (some ⟨fb,0,none⟩),cv] 115 (0,0))
 map:wr.heap[w.heap.size+1]?=some (.map #[] 0)
 nodes:wr.ownsRow (w.heap.size+2) 119 3 nv kn (Au Eb (List.replicate kn j8))
 ax:wr.ownsRow (w.heap.size+2) 30 4 cv kc (Au V4.cells ((vs.take kc).map au.cap))
def Nl {w:WD} {B size n b:Nat} {T:TypeId} {v:VL} {xs:List VL} (h:w.ownsRow B T size v n xs) (a:v.ownBlock=some b):B<=b:=(Cq h a).choose_spec.2
variable {w wr w2 w9:WD} {fb k:Nat} {vs:List au} {cv nv v9:VL} {v:au}
def J7.next {d b:Nat} (h:J7 w fb vs d b cv nv wr) (a:BW wr.heap.size wr w2):J7 w fb vs d b cv nv w2:=
 ⟨h.low.trans (a.mono h.low.size),Ae a h.head (Ab h.head),Ae a h.map (Ab h.map),
  A7 (S:=fun _=>False) h.nodes ((Mod.af a).mono fun _ _ c=>c) fun _ _ c=>c,A7 (S:=fun _=>False) h.ax ((Mod.af a).mono fun _ _ c=>c) fun _ _ c=>c⟩
def J7.cap (h:J7 w fb vs k k cv nv wr) (q:vs[k]?=some v) (a:w9.ownsRow (w.heap.size+2) 30 4 v9 (k+1) (Au V4.cells ((vs.take k).map au.cap)++v.cap.cells.toList))
  (n:wr.grownBy w9 cv.ownBlock):J7 w fb vs k (k+1) v9 nv (w9.setCell ⟨w.heap.size,6,none⟩ v9):=by
 have f:=Mod.grown n fun _ e=>e;have d:∀ b,cv.ownBlock=some b->w.heap.size+2<=b:=fun b e=>Nl h.ax e
 have o:=f.ar h.head fun e=>by have:=d _ e;omega
 have p:=f.ar h.map fun e=>by have:=d _ e;omega
 have i:=A7 h.nodes f fun b e c=>by
  obtain ⟨j,m,_⟩:=Cq h.ax c;exact Bo h.nodes m (by decide) e
 have g:Mod (fun b=>b=w.heap.size) w9 (w9.setCell ⟨w.heap.size,6,none⟩ v9):=Mod.setCell _ _ _ _ rfl;refine ⟨Ee (h.low.trans (f.below h.low.size fun b e=>by have:=d b e;omega)) Ln,Am o 6 v9,g.ar p (by omega),A7 i g fun b e c=>?_,?_⟩
 .have:=Nl i e;omega
 .have l:=A7 a g fun b e c=>by have:=Nl a e;omega
  rw [Ov,q,C9,N0];simpa [Au] using l
def J7.node (h:J7 w fb vs k (k+1) cv nv wr) (a:w9.ownsRow (w.heap.size+2) 119 3 v9 (k+1) (Au Eb (List.replicate k j8)++(Eb j8).toList))
  (n:wr.grownBy w9 nv.ownBlock):J7 w fb vs (k+1) (k+1) cv v9 (w9.setCell ⟨w.heap.size,3,none⟩ v9):=by
 have f:=Mod.grown n fun _ e=>e;have d:∀ b,nv.ownBlock=some b->w.heap.size+2<=b:=fun b e=>Nl h.nodes e
 have o:=f.ar h.head fun e=>by have:=d _ e;omega
 have p:=f.ar h.map fun e=>by have:=d _ e;omega
 have i:=A7 h.ax f fun b e c=>by
  obtain ⟨j,m,_⟩:=Cq h.nodes c;exact Bo h.ax m (by decide) e
 have g:Mod (fun b=>b=w.heap.size) w9 (w9.setCell ⟨w.heap.size,3,none⟩ v9):=Mod.setCell _ _ _ _ rfl;refine ⟨Ee (h.low.trans (f.below h.low.size fun b e=>by have:=d b e;omega)) Ln,Am o 3 v9,g.ar p (by omega),?_,A7 i g fun b e c=>?_⟩
 .have l:=A7 a g fun b e c=>by have:=Nl a e;omega
  rw [List.replicate_succ',N0];simpa [Au] using l
 .have:=Nl i e;omega
structure Awg (w:WD) (fb:Nat) (vs:List au) (k:Nat) (nv:VL) (wx:WD):Prop where
 ex:∃ cv,J7 w fb vs k (k+1) cv nv wx
def Awh:(prog.info? 30).map (fun i=>(i.zero,i.size,i.bytes))=some (some V4.zero.val,4,32):=by kernel_rfl
def Awi:(prog.info? 119).map (fun i=>(i.zero,i.size,i.bytes))=some (some (.agg #[.bool false,.bool false,.int .i64 0]),3,16):=by kernel_rfl
def Ajf {W:WD} {cs:Array VL} {T:TypeId}:∀ j u,cs.toList[j]?=some u->((W.alloc (.cells cs T)).drew).cell? ((⟨W.heap.size,0,none⟩:Addr).add j)=some u:=fun i u a=>by
 rw [show ((⟨W.heap.size,0,none⟩:Addr).add i)=⟨W.heap.size,i,none⟩ by unfold Addr.add;split<;>simp_all,Aa (w:=(W.alloc (.cells cs T)).drew) (Ah W (.cells cs T)) i,<- a];simp
def Awj {w:WD} {b:Nat} (h:w.heap[b]?=some (.map #[] 0)):L6 w b []:=by
 obtain ⟨d,c,a,rest⟩:=Yz (H:=Unit) w prog 3 O8;rw [Ah] at a;injection a with a;injection a with e1 e2;subst e1;subst e2;exact ⟨#[],0,h,rest⟩
def Aax (w:WD) (fb fm fl:Nat) (vs:List au) (e:Ending) (w':WD):Prop:=
 ∃ T:Tv,e=.returned (.pointer (some ⟨T.tb,0,none⟩))/\An w' T/\BW w.heap.size w w'/\(∀ b,T.aw b->w.heap.size<=b)/\T.fb=fb/\T.fm=fm/\T.fl=fl/\T.vs=vs/\T.pl=⟨0,-1,[],List.replicate vs.length j8,[]⟩
def Aay {w:WD} {fb fm fl:Nat} {vs:List au} (hf:ju w fb fm fl vs) (aA:Iq vs):CS prog 14 #[.pointer (some ⟨fb,0,none⟩)] w (Aax w fb fm fl vs):=by
 have aH:=fun (W:WD) (hW:BW w.heap.size w W)=>Aea (hf.below hW);have aQ:=fun (W:WD) (hW:BW w.heap.size w W) (i:Int)=>Aeh (hf.below hW) aA i;obtain ⟨m,hm⟩:=Ex (vs.length);have a0:=@run_makeMap prog;rw [<- hm] at aH;have a4:m<=16:=by rw [hm];exact aA.len
 replace ⟨hf,aA,aH,aQ,hm⟩:=H5 hf aA aH aQ hm;go_enter func14,ntmps14;go_upto_region 6 with fail;obtain ⟨W0,aK⟩:=Ex ((w.alloc (.cells #[.int .i64 0,.int .i64 (-1),.map (some (w.heap.size+1)),.slice none 0 0,.slice none 0 0,.pointer (some ⟨fb,0,none⟩),.slice none 0 0] 115)).alloc (.map #[] 0));have aD:J7 w fb vs 0 0 (.slice none 0 0) (.slice none 0 0) W0:=by rw [aK];exact ⟨Bn.alloc (by simp) _,Aj _ (Ah _ _),A3 _ _ (by simp),Lv _ _ _ _,Lv _ _ _ _⟩
 rw [<- aK];clear aK a0;replace aD:=Hh aD;go_wp2_with fail;refine (aH _ aD.low).mono ?_;rintro e w1 ⟨rfl,rfl⟩;go_wp2_with fail;go_loopw [4,5,6,23] (fun _ _ _ iv wr=>∃ (k:Nat) (cv nv:VL),iv=.int .i64 k/\k<=m/\Hid (J7 w fb vs k k cv nv wr)) (fun _ _ _ iv _=>m-(intOf iv).toNat)
 case atStart=>exact ⟨0,_,_,rfl,Aq _,aD⟩
 case round=>
  obtain ⟨k,cv,nv,rfl,a6,hN⟩:=hrel;by_cases hc:k<m
  .have aY:(k:Int)<m:=(by omega);have aR:=aQ _ hN.low (k:Int);replace aR:=Hh aR;go_wp2_with fail;refine aR.mono ?_;rintro e w2 ⟨x,bb,rfl,hx,aL,_,av⟩
   have hv:vs[k]?=some x.pl:=by
    rcases av with ⟨_,_,h⟩ | ⟨_,_,h⟩
    .simpa using h
    .have:=hm.out;omega
   clear av;replace ⟨hx,aL,hv⟩:=H3 hx aL hv;go_upto_region 10 with fail;obtain ⟨W3,aF⟩:=Ex (w2.alloc (.cells x.cells 69));have aM:BW w2.heap.size w2 W3:=(by rw [aF];exact Bn);have an:=(hN.next aL.out).next aM;have al:W3.heap[w2.heap.size]?=some (.cells x.cells 69 (0,0)):=(by rw [aF];exact Ah _ _);have f6:=Bk an.head 6 cv rfl;have f3:=Bk an.head 3 nv rfl;have y1:=Bk al 1 (.int .i64 x.cap.a) rfl;have y2:=Bk al 2 (.int .i64 x.cap.b) rfl;have y3:=Bk al 3 (.int .i64 x.cap.c) rfl;have y4:=Bk al 4 (.int .i64 x.cap.d) rfl;obtain ⟨bx,aN⟩:=Ex (w2.heap.size);have a7:=Ab an.head;rw [<- aF];rw [<- aN] at al y1 y2 y3 y4 ⊢;have r:J7 w fb vs k k cv nv ((W3.alloc (.cells x.cap.cells 30)).drew):=(an.next Bn).next ⟨rfl,rfl,rfl,Nat.le_refl _,fun _ _=>rfl⟩;have ad:=r.ax;have y:=Ajf (W:=W3) (cs:=x.cap.cells) (T:=30)
   have aB:∀ u∈x.cap.cells.toList,u.oneCell'=true:=by intro u hu;simp at hu;rcases hu with rfl | rfl | rfl | rfl<;>rfl
   have aC:=G4 (n:=k) (by omega);have aO:(k+1)*32<=140737488355328:=(by omega);have ao:w.heap.size+2<=((W3.alloc (.cells x.cap.cells 30)).drew).heap.size:=Ab r.map
   have t:∀ w9:WD,((W3.alloc (.cells x.cap.cells 30)).drew).grownBy w9 cv.ownBlock->w9.heap[w.heap.size]?=some (.cells #[.int .i64 0,.int .i64 (-1),.map (some (w.heap.size+1)),nv,.slice none 0 0,.pointer (some ⟨fb,0,none⟩),cv] 115 (0,0)):=fun w9 hg=>
    (hg.block _ (Ab r.head) (fun e=>by have:=Nl r.ax e.symm;omega)).trans r.head
   obtain ⟨a1,aU,aV,aS,aT⟩:=Cb Awh;replace ⟨aM,an,al,r,ad,y,aB,aC⟩:=H8 aM an al r ad y aB aC;replace ⟨aO,ao,t,aN⟩:=H4 aO ao t aN;clear aF;go_cut [] (fun wx=>Awg w fb vs k nv wx)
   case first=>
    go_region_law
     (first
       | (refine Tl (by rfl) _ _ _ (by rfl) (w.heap.size+2) 30 a1 _ 4 32 underlying113 aU aV aS aT rfl (by decide) cv k _ (by rfl) ad.out ⟨W3.heap.size,0,none⟩ 1 x.cap.cells.toList (by rfl) (by rfl) y.out aB.out aC.out aO.out ao.out ?_;intro g9 a3 w9 g f;have q9:=t w9 f;have f9:=Aa q9 6;have z9:=Af q9 6;simp at f9
          replace ⟨q9,g,f⟩:=H3 q9 g f))
    all_goals
     go_wp2_with fail;go_meet;exact ⟨_,r.cap hv.out g.out f.out⟩
   case rest=>
    obtain ⟨aX,aE⟩:=hcut.ex;clear hcut f6 f3 y1 y2 y3 y4;have f3:=Bk aE.head 3 nv rfl;have q:J7 w fb vs k (k+1) aX nv (wc.alloc (.cells #[.bool false,.bool false,.int .i64 (-1)] 119)):=aE.next Bn;have ac:=q.nodes;have l:∀ j u,(Eb j8).toList[j]?=some u->(wc.alloc (.cells #[.bool false,.bool false,.int .i64 (-1)] 119)).cell? ((⟨wc.heap.size,0,none⟩:Addr).add j)=some u:=Ajf (W:=wc) (cs:=Eb j8) (T:=119)
    have z:∀ u∈(Eb j8).toList,u.oneCell'=true:=by intro u hu;simp at hu;rcases hu with rfl | rfl | rfl<;>rfl
    have ap:(k+1)*16<=140737488355328:=(by omega);have s:w.heap.size+2<=(wc.alloc (.cells #[.bool false,.bool false,.int .i64 (-1)] 119)).heap.size:=Ab q.map;obtain ⟨aW,v,am,o,p⟩:=Cb Awi;replace ⟨aE,q,ac,l,z,ap,s,v⟩:=H8 aE q ac l z ap s v;replace ⟨am,o,p⟩:=H3 am o p;go_wp2_with (at_builtin;refine Ms _ rfl _ _ 109 rfl (w.heap.size+2) 119 aW _ 3 16 underlying109 v.out am.out o.out p.out rfl (by decide) _ k _ rfl ac.out ⟨wc.heap.size,0,none⟩ 1 1 (Eb j8).toList rfl rfl l.out z.out aC.out ap.out s.out ?c6)
    case c6=>
     intro v' w9 g f aI;obtain ⟨g5,a2,rfl⟩:=Joins.ownsRow_form g (by omega)
     have aG:=
      (f.block _ (Ab q.head) (fun e=>by have:=Nl q.nodes e.symm;omega)).trans q.head
     have z9:=Bk aG 3 nv rfl;have a5:=Af aG;have aJ:=q.node g f;clear f3;replace ⟨g,f,aI,aG,aJ⟩:=H5 g f aI aG aJ;go_wp2;go_roundw
     case rel=>exact ⟨k+1,_,_,by go_num,by omega,aJ⟩
     case measure=>simp [intOf];omega
  .have aY:¬ (k:Int)<m:=(by omega);have aZ:k=m:=(by omega);subst aZ;go_wp2;go_ret;have hN:=hN.out;have aP:=hm.out;refine ⟨⟨w.heap.size,w.heap.size+1,nv,.slice none 0 0,fb,fm,fl,cv,0,-1,[],List.replicate k j8,[],vs⟩,rfl,⟨hN.head,?_,?_,Lv _ _ _ _,?_,fun j hj=>by simp at hj,fun j hj=>by simp at hj,by simp,by simp,?_,by simp [aP]⟩,hN.low,?_,rfl,rfl,rfl,rfl,by rw [<- aP];rfl⟩
   .exact Awj hN.map
   .have:=X5 (B':=0) hN.nodes (Aq _);simpa using this
   .have:=X5 (B':=0) hN.ax (Aq _);rw [C8 (by omega)] at this;rw [aP] at this;exact this
   .refine ⟨⟨w,hf.out,hN.low,fun b hb=>?_⟩,aA.out⟩;rcases hb with e | e | e | e | ⟨j,hj,_⟩
    .have:b=w.heap.size:=e;omega
    .have:b=w.heap.size+1:=e;omega
    .have:=Nl hN.nodes e;omega
    .simp [Value.ownBlock] at e
    .simp at hj
   .intro b hb;rcases hb with e | e | e | e | ⟨j,hj,_⟩
    .have:b=w.heap.size:=e;omega
    .have:b=w.heap.size+1:=e;omega
    .have:=Nl hN.nodes e;omega
    .simp [Value.ownBlock] at e
    .simp at hj
end
section
open Go.RowKit Go.Maps Go.Lib
variable{T:Tv}{u v:V4}{w w' w1 wr:WD}{b:el}
def I0 (w:WD) (r:Int) (e:Ending) (w':WD):Prop:=e=.returned (.int .i64 r)/\BW w.heap.size w w'
def Ajg   (x:cz) (h:An w T) (hn:0<=x.n.node) (hk:x.n.kind=8\/x.n.kind=9\/x.n.kind=10\/x.n.kind=11) :
  CS prog 59 #[.pointer (some ⟨T.tb,0,none⟩),x.val] w (I0 w (Le T.pl x.n)):=by
 obtain ⟨W0,s⟩:=Ex (w.alloc (.cells x.cells 40 (0,0)));have b0:BW w.heap.size w W0:=by rw [s];exact Bn
 have u:=h.low b0;have p:W0.heap[w.heap.size]?=some (.cells x.cells 40 (0,0)):=by rw [s];exact Ah _ _
 have aF:=Ab p;have av:=Ab u.head
 obtain ⟨so,cap,ac,c3,al⟩:∃ so cap,T.nv=.slice so T.nodes.length cap/\W0.cell? ⟨T.tb,3,none⟩=some (.slice so T.nodes.length cap)/\T.nodes.length<=9223372036854775807:=by
  rcases u.nodes.2 with ⟨e,h0⟩ | ⟨g,cap,aL,e,_,_,h1,h2,_⟩
  .exact ⟨none,0,by rw [e,h0],by rw [Aa u.head 3,h0,<- e];rfl,by omega⟩
  .exact ⟨_,_,e,by rw [Aa u.head 3,<- e];rfl,by unfold maxLen at h2;omega⟩
 have c1:=Bk u.head 1 (.int .i64 T.tick) rfl;obtain ⟨tb,ht⟩:=Ex (T.tb);obtain ⟨m,hm⟩:=Ex (T.nodes.length);obtain ⟨r,hr⟩:=Ex (Le T.pl x.n);obtain ⟨tk,t⟩:=Ex (T.tick);rw [<- hr,<- ht];rw [<- ht,<- hm] at c3;rw [<- ht,<- t] at c1;rw [<- ht] at av
 have a:r=if (m:Int)<=x.n.node then 142
   else if x.n.kind=8\/x.n.kind=9 then (if x.n.tick<tk then 141 else if (R9 T.nodes x.n.node).up≠decide (x.n.kind=8) then 100 else 0)
   else if x.n.kind=10\/x.n.kind=11 then (if (R9 T.nodes x.n.node).bq≠decide (x.n.kind=11) then 100 else 0) else 0:=by rw [hr,hm,t];rfl
 obtain ⟨⟨kd,ep,et,cl,sq,jn,an,nn,hw⟩,aN,sn,sc,de⟩:=x;simp only at hn hk a;have e0:=Bk p 0 (.int .i64 kd) rfl;have e2:=Bk p 2 (.int .i64 et) rfl;have e7:=Bk p 7 (.int .i64 nn) rfl;by_cases q:(m:Int)<=nn
 .rw [Ad q] at a;subst a;replace ⟨h,u,p,ac,ht,hm,hr,t⟩:=H8 h u p ac ht hm hr t;replace ⟨hk,b0,al⟩:=H3 hk b0 al;go_enter func59,ntmps59;go_upto_region 1 with fail;rw [<- s];clear s;go_quiet (fail);rename_i nq;have l:=b0.trans ((A9 _ W0 nq).mono b0.size);replace l:=Hh l;go_wp2;go_ret;exact ⟨rfl,l.out⟩
 .rw [Ac q] at a;obtain ⟨k,rfl⟩:∃ k:Nat,nn=(k:Int):=⟨nn.toNat,by omega⟩;have aM:(k:Int)<m:=by omega
  obtain ⟨g,aK,o,ao,_⟩:=u.xu (by omega);have e1:so=some ⟨g,0,none⟩:=by have:=ac.symm.trans o;injection this
  subst e1;obtain ⟨nd,ad⟩:=Ge T.nodes k (by omega);obtain ⟨n0,n1,n2,_⟩:=u.py ad o;have ap:R9 T.nodes (k:Int)=nd:=by unfold R9;rw [J8,ad];rfl
  rw [ap] at a;obtain ⟨up,dr,si⟩:=nd;simp only at a n0 n1 n2;clear ao;have aD:g<W0.heap.size:=by obtain ⟨_,hc,_⟩:=Cq u.nodes (g:=g) (by rw [o];rfl);exact Ab hc
  replace ⟨h,u,p,ac,ht,hm,hr,t⟩:=H8 h u p ac ht hm hr t;replace ⟨b0,o,ad,ap⟩:=H4 b0 o ad ap;go_enter func59,ntmps59;go_upto_region 1 with fail;rw [<- s];clear s;go_quiet (fail);rename_i nq;go_upto_region 3 with fail;obtain ⟨d,c⟩:=Ex (W0.drewN nq);have aB:d.cell? ⟨w.heap.size,0,none⟩=some (.int .i64 kd):=by rw [c];exact e0
  have aC:d.cell? ⟨w.heap.size,2,none⟩=some (.int .i64 et):=by rw [c];exact e2
  have aG:d.cell? ⟨w.heap.size,7,none⟩=some (.int .i64 k):=by rw [c];exact e7
  have aA:d.cell? ⟨tb,1,none⟩=some (.int .i64 tk):=by rw [c];exact c1
  have ao:d.cell? ⟨tb,3,none⟩=some (.slice (some ⟨g,0,none⟩) m cap):=by rw [c];exact c3
  have aH:d.cell? ⟨g,k*3,none⟩=some (.bool up):=by rw [c];exact n0
  have aI:d.cell? ⟨g,k*3+1,none⟩=some (.bool dr):=by rw [c];exact n1
  have aJ:d.cell? ⟨g,k*3+2,none⟩=some (.int .i64 si):=by rw [c];exact n2
  have z:w.heap.size<d.heap.size:=by rw [c];exact aF
  have am:tb<d.heap.size:=by rw [c];exact av
  have aE:g<d.heap.size:=by rw [c];exact aD
  have l:BW w.heap.size w d:=by rw [c];exact b0.trans ((A9 _ W0 nq).mono b0.size)
  rw [<- c];replace l:=Hh l;clear c e0 e2 e7 c1 c3 n0 n1 n2 aF av aD;go_region;obtain ⟨W3,v⟩:=Ex ((d.alloc (.cells #[.bool up,.bool dr,.int .i64 si] 119)).drew);have f:BW d.heap.size d W3:=by rw [v];exact Bn.trans ⟨rfl,rfl,rfl,Nat.le_refl _,fun _ _=>rfl⟩
  have y:=l.trans (f.mono l.size);have e0:=(Bp (w:=d) (f.block _ z)).trans aB;have e2:=(Bp (w:=d) (f.block _ z)).trans aC;have c1:=(Bp (w:=d) (f.block _ am)).trans aA;have x0:W3.cell? ⟨d.heap.size,0,none⟩=some (.bool up):=by rw [v];exact Aa (w:=(d.alloc (.cells #[.bool up,.bool dr,.int .i64 si] 119)).drew) (Ah d _) 0
  have x1:W3.cell? ⟨d.heap.size,1,none⟩=some (.bool dr):=by rw [v];exact Aa (w:=(d.alloc (.cells #[.bool up,.bool dr,.int .i64 si] 119)).drew) (Ah d _) 1
  rw [<- v];replace ⟨f,y⟩:=H2 f y;clear v aB aC aG aA ao aH aI aJ z am aE;have i:=fun n=>y.trans ((A9 _ W3 n).mono y.size);have j:=y.out;replace ⟨i,j⟩:=H2 i j;rcases hk with rfl | rfl | rfl | rfl
  .by_cases qt:et<tk
   .have b:r=141:=(by rw [a];simp [qt]);replace a:=Hh a;subst b;go_wp2;go_quiet (fail);go_wp2;go_ret;exact ⟨rfl,i _⟩
   .cases up
    all_goals
     have b:r=_:=a;simp [qt] at b;replace a:=Hh a;subst b;go_wp2;go_quiet (fail);go_wp2;go_ret;exact ⟨rfl,i _⟩
  .by_cases qt:et<tk
   .have b:r=141:=(by rw [a];simp [qt]);replace a:=Hh a;subst b;go_wp2;go_quiet (fail);go_wp2;go_ret;exact ⟨rfl,i _⟩
   .cases up
    all_goals
     have b:r=_:=a;simp [qt] at b;replace a:=Hh a;subst b;go_wp2;go_quiet (fail);go_wp2;go_ret;exact ⟨rfl,i _⟩
  .cases dr
   all_goals
    have b:r=_:=a;simp at b;replace a:=Hh a;subst b;go_wp2;go_ret;exact ⟨rfl,j.out⟩
  .cases dr
   all_goals
    have b:r=_:=a;simp at b;replace a:=Hh a;subst b;go_wp2;go_ret;exact ⟨rfl,j.out⟩
def Sc {B:Nat}  (h:BW B w w'):(∀ k o,k<B->w'.cell? ⟨k,o,none⟩=w.cell? ⟨k,o,none⟩)/\(∀ k o,k<B->w'.frozen? ⟨k,o,none⟩=w.frozen? ⟨k,o,none⟩):=
 ⟨fun k o a=>Bp (h.block k a),fun k o a=>by simp only [World.frozen?,h.block k a]⟩
def Ajh   (x:cz) (h:An w T) (hn:1<=x.n.br) :
  CS prog 60 #[.pointer (some ⟨T.tb,0,none⟩),x.val] w (I0 w (Jy T.pl x.n)):=by
 obtain ⟨a,s⟩:=Ex (w.alloc (.cells x.cells 40 (0,0)));have l:BW w.heap.size w a:=by rw [s];exact Bn
 have hA:=h.low l;have f:a.heap[w.heap.size]?=some (.cells x.cells 40 (0,0)):=by rw [s];exact Ah _ _
 have aH:=Ab f
 obtain ⟨so,cap,t,c4,am⟩:∃ so cap,T.jv=.slice so T.js.length cap/\a.cell? ⟨T.tb,4,none⟩=some (.slice so T.js.length cap)/\T.js.length<=9223372036854775807:=by
  rcases hA.ab.2 with ⟨e,h0⟩ | ⟨g,cap,aU,e,_,_,h1,h2,_⟩
  .exact ⟨none,0,by rw [e,h0],by rw [Aa hA.head 4,h0,<- e];rfl,by omega⟩
  .exact ⟨_,_,e,by rw [Aa hA.head 4,<- e];rfl,by unfold maxLen at h2;omega⟩
 obtain ⟨tb,ht⟩:=Ex (T.tb);obtain ⟨m,hm⟩:=Ex (T.js.length);obtain ⟨r,hr⟩:=Ex (Jy T.pl x.n);rw [<- hr,<- ht];rw [<- ht,<- hm] at c4;rw [<- hm] at am t;have c:r=if (m:Int)<x.n.br then 90 else if x.n.kind≠7 then (A2 (Fx T.pl.ab x.n.br).lf (F7 x.n.kind)).2 else if Gl (Fx T.pl.ab x.n.br) x.n.attempt x.n.node=none then 100 else 0:=by rw [hr,hm];unfold Jy;simp [Tv.pl]
 obtain ⟨⟨kd,ep,et,cl,sq,jn,an,nn,hw⟩,aY,sn,sc,de⟩:=x;simp only at hn c;have e0:=Bk f 0 (.int .i64 kd) rfl;have e5:=Bk f 5 (.int .i64 jn) rfl;have e6:=Bk f 6 (.int .i64 an) rfl;have e7:=Bk f 7 (.int .i64 nn) rfl;by_cases q:(m:Int)<jn
 .rw [Ad q] at c;subst c;replace ⟨h,hA,f,t,ht,hm,hr,l⟩:=H8 h hA f t ht hm hr l;replace am:=Hh am;go_enter func60,ntmps60;go_upto_region 1 with fail;rw [<- s];clear s;go_quiet (fail);rename_i nq;have av:=l.trans ((A9 _ a nq).mono l.size);replace av:=Hh av;go_wp2;go_ret;exact ⟨rfl,av.out⟩
 .rw [Ac q] at c;obtain ⟨k,rfl⟩:∃ k:Nat,jn=(k:Int)+1:=⟨(jn-1).toNat,by omega⟩;have aW:(k:Int)<m:=by omega
  have aV:(0:Int)<=(k:Int):=by omega
  obtain ⟨j,hj⟩:=Ge T.js k (by omega);obtain ⟨g,aO,_,cj,_,u⟩:=hA.j6 hj;have e1:so=some ⟨g,0,none⟩:=by have:=t.symm.trans u;injection this
  subst e1;obtain ⟨b,z⟩:=j;have i:=Ai hj;have al:Fx T.pl.ab ((k:Int)+1)=z.pl:=by unfold Fx;rw [show ((k:Int)+1-1).toNat=k by omega];simp [Tv.pl,hj]
  rw [al] at c;simp only at cj;have d:=hA.box _ i;have ao:=(hA.ok _ i).parts;have kp:∀ W,BW a.heap.size a W->CS prog 102 #[.pointer (some ⟨b,0,none⟩),.int .i64 an,.int .i64 nn] W (Afp z an nn W):=fun W hW=>Afq (Ae hW d (Ab d)) (Bv.low ao hW) an nn;by_cases q7:kd=7
  .subst q7;rw [Ac (by simp)] at c;replace ⟨h,hA,f,t,ht,hm,hr,l⟩:=H8 h hA f t ht hm hr l;replace ⟨u,hj,i,al,d,ao,kp,c⟩:=H8 u hj i al d ao kp c;go_enter func60,ntmps60;go_upto_region 1 with fail;rw [<- s];clear s;go_quiet (fail);rename_i nq;go_upto_region 3 with fail;go_quiet (fail);rename_i aI;go_wp2_with fail;refine (kp _ (A9 _ a _)).mono ?_;rintro e w1 ⟨rfl,hq⟩;have ac:=fun n=>l.trans ((A9 _ a n).mono l.size);rcases hq with ⟨aB,rfl⟩ | ⟨k2,pb,aE,_,_,rfl⟩
   .have aC:r=100:=(by rw [c.out,Ad aB]);replace ⟨ac,aB⟩:=H2 ac aB;subst aC;go_wp2;go_ret;exact ⟨rfl,ac _⟩
   .have aC:r=0:=(by rw [c.out,Ac (by rw [aE];simp)]);replace ⟨ac,aE⟩:=H2 ac aE;subst aC;go_wp2;go_ret;exact ⟨rfl,ac _⟩
  .rw [Ad q7] at c;have aJ:=Bk d 14 (.int .i64 z.pl.lf.st) rfl;have aK:=Bk d 15 (.int .i64 z.pl.lf.bj) rfl;have aL:=Bk d 16 (.int .i64 z.pl.lf.left) rfl;have aM:=Bk d 17 (.bool z.pl.lf.wall) rfl;have aN:=Bk d 18 (.bool z.pl.lf.stop) rfl
   have ap:1<=F7 kd/\F7 kd<=8:=by unfold F7;split<;>(try split)<;>omega
   have ks:=fun W=>Afo kd W;obtain ⟨sg,aD⟩:=Ex (F7 kd);rw [<- aD] at ks ap c;have kx:=fun W=>Ae8 z.pl.lf sg W ap;obtain ⟨⟨l1,r1⟩,aA⟩:∃ p,p=A2 z.pl.lf sg:=⟨_,rfl⟩;rw [<- aA] at kx c;simp only at kx c;subst c;replace ⟨h,hA,f,t,ht,hm,hr,l⟩:=H8 h hA f t ht hm hr l;replace ⟨u,hj,i,al,d,ao,kp,ap⟩:=H8 u hj i al d ao kp ap;replace ⟨aD,aA,ks,kx⟩:=H4 aD aA ks kx;go_enter func60,ntmps60;go_upto_region 1 with fail;rw [<- s];clear s;go_quiet (fail);rename_i nq;go_upto_region 3 with fail;go_quiet (fail);rename_i aI;have aZ:∀ n,((a.drewN n).alloc (.cells #[.int .i64 0,.int .i64 0,.int .i64 0,.bool false,.bool false] 43)).cell? ⟨a.heap.size,0,none⟩=some (.int .i64 0):=fun n=>Aa (w:=(a.drewN n).alloc (.cells #[.int .i64 0,.int .i64 0,.int .i64 0,.bool false,.bool false] 43)) (Ah (a.drewN n) _) 0;have a0:∀ n,((a.drewN n).alloc (.cells #[.int .i64 0,.int .i64 0,.int .i64 0,.bool false,.bool false] 43)).cell? ⟨a.heap.size,1,none⟩=some (.int .i64 0):=fun n=>Aa (w:=(a.drewN n).alloc (.cells #[.int .i64 0,.int .i64 0,.int .i64 0,.bool false,.bool false] 43)) (Ah (a.drewN n) _) 1;have a1:∀ n,((a.drewN n).alloc (.cells #[.int .i64 0,.int .i64 0,.int .i64 0,.bool false,.bool false] 43)).cell? ⟨a.heap.size,2,none⟩=some (.int .i64 0):=fun n=>Aa (w:=(a.drewN n).alloc (.cells #[.int .i64 0,.int .i64 0,.int .i64 0,.bool false,.bool false] 43)) (Ah (a.drewN n) _) 2;have a2:∀ n,((a.drewN n).alloc (.cells #[.int .i64 0,.int .i64 0,.int .i64 0,.bool false,.bool false] 43)).cell? ⟨a.heap.size,3,none⟩=some (.bool false):=fun n=>Aa (w:=(a.drewN n).alloc (.cells #[.int .i64 0,.int .i64 0,.int .i64 0,.bool false,.bool false] 43)) (Ah (a.drewN n) _) 3;have a3:∀ n,((a.drewN n).alloc (.cells #[.int .i64 0,.int .i64 0,.int .i64 0,.bool false,.bool false] 43)).cell? ⟨a.heap.size,4,none⟩=some (.bool false):=fun n=>Aa (w:=(a.drewN n).alloc (.cells #[.int .i64 0,.int .i64 0,.int .i64 0,.bool false,.bool false] 43)) (Ah (a.drewN n) _) 4;have zf:∀ n o,((a.drewN n).alloc (.cells #[.int .i64 0,.int .i64 0,.int .i64 0,.bool false,.bool false] 43)).frozen? ⟨a.heap.size,o,none⟩=false:=fun n=>Af (w:=(a.drewN n).alloc (.cells #[.int .i64 0,.int .i64 0,.int .i64 0,.bool false,.bool false] 43)) (Ah (a.drewN n) _);have y:=fun n=>l.trans ((A9 _ a n).mono l.size);replace y:=Hh y;have ad:=Ab d.out;have ze:∀ n,((a.drewN n).alloc (.cells #[.int .i64 0,.int .i64 0,.int .i64 0,.bool false,.bool false] 43)).cell? ⟨w.heap.size,0,none⟩=some (.int .i64 kd):=fun n=>(Bp (w:=a) (((A9 _ a n).alloc Ln _).block _ aH)).trans e0;have aP:∀ n,((a.drewN n).alloc (.cells #[.int .i64 0,.int .i64 0,.int .i64 0,.bool false,.bool false] 43)).cell? ⟨b,14,none⟩=some (.int .i64 z.pl.lf.st):=fun n=>(Bp (w:=a) (((A9 _ a n).alloc Ln _).block _ ad)).trans aJ;have aQ:∀ n,((a.drewN n).alloc (.cells #[.int .i64 0,.int .i64 0,.int .i64 0,.bool false,.bool false] 43)).cell? ⟨b,15,none⟩=some (.int .i64 z.pl.lf.bj):=fun n=>(Bp (w:=a) (((A9 _ a n).alloc Ln _).block _ ad)).trans aK;have aR:∀ n,((a.drewN n).alloc (.cells #[.int .i64 0,.int .i64 0,.int .i64 0,.bool false,.bool false] 43)).cell? ⟨b,16,none⟩=some (.int .i64 z.pl.lf.left):=fun n=>(Bp (w:=a) (((A9 _ a n).alloc Ln _).block _ ad)).trans aL;have aS:∀ n,((a.drewN n).alloc (.cells #[.int .i64 0,.int .i64 0,.int .i64 0,.bool false,.bool false] 43)).cell? ⟨b,17,none⟩=some (.bool z.pl.lf.wall):=fun n=>(Bp (w:=a) (((A9 _ a n).alloc Ln _).block _ ad)).trans aM;have aT:∀ n,((a.drewN n).alloc (.cells #[.int .i64 0,.int .i64 0,.int .i64 0,.bool false,.bool false] 43)).cell? ⟨b,18,none⟩=some (.bool z.pl.lf.stop):=fun n=>(Bp (w:=a) (((A9 _ a n).alloc Ln _).block _ ad)).trans aN;go_upto_region 5 with fail;go_region_law
    (first
      | (go_simp;go_at_call 101;refine (ks _).mono ?_
         rintro e w1 ⟨rfl,rfl⟩)
      | (go_simp;go_at_call 100;refine (kx _).mono ?_;rintro e w2 ⟨rfl,v⟩;have s2:=v.size;obtain ⟨aF,aG⟩:=Sc v
         (try simp at s2)
         (try simp at aF)
         (try simp at aG)
         (try have aX:a.heap.size<w2.heap.size:=by omega)
         replace v:=Hh v))
   all_goals
    go_wp2;go_ret;refine ⟨rfl,?_⟩
    first
     | exact ((y _).trans (v.mono (y _).size)).alloc (A5 (y _).size v.size) _
     | exact Ee (Ee (Ee (Ee (Ee (((y _).alloc (y _).size _).trans (v.mono (by have:=l.size;simp;omega))) l.size) l.size) l.size) l.size) l.size
structure oh (w:WD) (u v:V4) (b:el) (wr:WD):Prop where
 low:BW w.heap.size w wr
 b1:wr.heap[w.heap.size]?=some (.cells u.cells 30 (0,0))
 b2:wr.heap[w.heap.size+1]?=some (.cells v.cells 30 (0,0))
 res:wr.heap[w.heap.size+2]?=some (.cells #[.int .i64 0,.int .i64 0] 333 (0,0))
 ny:wr.heap[w.heap.size+3]?=some (.cells #[.int .i64 b.1,.int .i64 b.2] 333 (0,0))
def oh.next    (h:oh w u v b wr) (a:BW wr.heap.size wr w'):oh w u v b w':=
 ⟨h.low.trans (a.mono h.low.size),Ae a h.b1 (Ab h.b1),Ae a h.b2 (Ab h.b2),Ae a h.res (Ab h.res),Ae a h.ny (Ab h.ny)⟩
def oh.set    (h:oh w u v b wr) (x y:Int):oh w u v (x,y) ((wr.setCell ⟨w.heap.size+3,0,none⟩ (.int .i64 x)).setCell ⟨w.heap.size+3,1,none⟩ (.int .i64 y)):=
 ⟨B9 (B9 h.low (by omega)) (by omega),(Cm _ _ _ _ (fun e=>by simp at e)).trans ((Cm _ _ _ _ (fun e=>by simp at e)).trans h.b1),(Cm _ _ _ _ (fun e=>by simp at e)).trans ((Cm _ _ _ _ (fun e=>by simp at e)).trans h.b2),(Cm _ _ _ _ (fun e=>by simp at e)).trans ((Cm _ _ _ _ (fun e=>by simp at e)).trans h.res),by
  have:=Am (Am h.ny 0 (.int .i64 x)) 1 (.int .i64 y)
  simpa using this⟩
structure vm (w:WD) (u v:V4) (b p:el) (pv:VL) (wr:WD):Prop where
 dw:oh w u v b wr
 box:∃ g,pv=.pointer (some ⟨g,0,none⟩)/\wr.heap[g]?=some (.cells #[.int .i64 p.1,.int .i64 p.2] 333 (0,0))/\w.heap.size+3<g
def oh.s1    {a c:Int} (h:oh w u v b wr) (d:BW wr.drew.heap.size wr.drew w1):vm w u v b (a,c) (.pointer (some ⟨w1.heap.size,0,none⟩)) (w1.alloc (.cells #[.int .i64 a,.int .i64 c] 333)):=by
 have h0:=h.next (A9 wr.heap.size wr 1);have h1:=h0.next d;have e:=Ab h1.ny;exact ⟨h1.next Bn,_,rfl,Ah _ _,e⟩
def oh.s2    {c d:Int} (h:oh w u v b wr) (g:BW (wr.alloc (.cells #[.int .i64 0,.int .i64 0] 333)).drew.heap.size (wr.alloc (.cells #[.int .i64 0,.int .i64 0] 333)).drew w1) :
  vm w u v b (c,d) (.pointer (some ⟨wr.heap.size,0,none⟩)) ((w1.setCell ⟨wr.heap.size,0,none⟩ (.int .i64 c)).setCell ⟨wr.heap.size,1,none⟩ (.int .i64 d)):=by
 have e:BW wr.heap.size wr (wr.alloc (.cells #[.int .i64 0,.int .i64 0] 333)).drew:=Bn.drew;have f:=e.trans (g.mono (by simp));have j:=Ae g (Ah _ _) (by simp);have i:=Ab h.ny;have a:BW wr.heap.size wr ((w1.setCell ⟨wr.heap.size,0,none⟩ (.int .i64 c)).setCell ⟨wr.heap.size,1,none⟩ (.int .i64 d)):=B9 (B9 f Ln) Ln;refine ⟨h.next a,_,rfl,?_,i⟩;have:=Am (Am j 0 (.int .i64 c)) 1 (.int .i64 d);simpa using this
def Ol (v:V4):Prop:=∀ d,d<4->v.get d<=9223372036854775807
def X8 {u v:V4} (h1:Ol u) (c:Ol v):∀ d,d<=4->(Fd u v d).1.1<=9223372036854775807/\(Fd u v d).1.2<=9223372036854775807
 | 0,_=>by simp [Fd]
 | d+1,hd=>by
  have h:=X8 h1 c d (by omega);have a:=h1 d (by omega);have b:=c d (by omega);unfold Fd;split
  .simp only [Ek];omega
  .exact h
def Awk (u v:V4) (w:WD) (h1:Ol u) (h2:Ol v):CS prog 250 #[u.val,v.val] w fun e w'=>e=.returned (.tuple #[Qx (Fd u v 4).1,.int .i64 (Fd u v 4).2])/\BW w.heap.size w w':=by
 obtain ⟨W0,ad⟩:=Ex ((((w.alloc (.cells u.cells 30)).alloc (.cells v.cells 30)).alloc (.cells #[.int .i64 0,.int .i64 0] 333)).alloc (.cells #[.int .i64 0,.int .i64 0] 333));have ac:oh w u v (0,0) W0:=by rw [ad];exact ⟨((Bn.alloc (by simp) _).alloc (by simp;omega) _).alloc (by simp;omega) _,Aj _ (Aj _ (Aj _ (Ah _ _))),Aj _ (Aj _ (A3 _ _ (by simp))),Aj _ (A3 _ _ (by simp)),A3 _ _ (by simp)⟩
 replace ⟨ac,h1,h2⟩:=H3 ac h1 h2;go_enter func250,ntmps250;go_upto_region 2 with fail;rw [<- ad];clear ad;go_wp2_with fail;go_loopw [7,8,9,11] (fun av _ _ iv wr=>∃ (d:Nat),iv=.int .i64 d/\d<=4/\av=.int .i64 (Fd u v d).2/\Hid (oh w u v (Fd u v d).1 wr)) (fun _ _ _ iv _=>4-(intOf iv).toNat)
 case atStart=>exact ⟨0,rfl,by omega,rfl,ac⟩
 case round=>
  obtain ⟨d,rfl,aA,rfl,l⟩:=hrel;obtain ⟨k,b⟩:=Ex ((Fd u v d).1);obtain ⟨at_,j⟩:=Ex ((Fd u v d).2);have f:=X8 h1.out h2.out d aA;rw [<- b] at l f;rw [<- j];by_cases r:d<4
  .have aG:(d:Int)<4:=(by omega);have aH:(0:Int)<=(d:Int):=(by omega);have al:=h1 d r;have am:=h2 d r;obtain ⟨x,hx⟩:=Ex (u.get d);obtain ⟨y,hy⟩:=Ex (v.get d);have u0:=hx▸Uo l.b1 r;have v0:=hy▸Uo l.b2 r;have t:Fd u v (d+1)=if d=0\/0<F6 (Ek (x,y)) k then (Ek (x,y),(d:Int)) else (k,at_):=(by rw [hx,hy,b,j];rfl);rw [<- hx] at al;rw [<- hy] at am;have kp:=fun W=>Abi (x,y) W;obtain ⟨⟨m,n⟩,hp⟩:∃ p,p=Ek (x,y):=⟨_,rfl⟩;rw [<- hp] at kp t;replace kp:∀ W,CS prog 293 #[.agg #[.int .i64 x,.int .i64 y]] W fun e w'=>e=.returned (.agg #[.int .i64 m,.int .i64 n])/\BW W.heap.size W w':=kp;have z:m<=9223372036854775807/\n<=9223372036854775807:=(by have:=hp;simp only [Ek,Rj] at this;omega);obtain ⟨o,q⟩:=k;replace ⟨b,j,f,al,am,hx,hy,t⟩:=H8 b j f al am hx hy t;replace ⟨hp,z,kp⟩:=H3 hp z kp;go_upto_region 5 with fail;have aD:=Ab l.b1;have aE:=Ab l.b2;go_cut [9] (fun pv wx=>vm w u v (o,q) (m,n) pv wx)
   case first=>
    go_region_law (first
     | (go_simp;go_at_call 293;refine (kp _).mono ?_;rintro e w1 ⟨rfl,a⟩;have s2:=a.size;obtain ⟨ao,aC⟩:=Sc a
        (try simp at s2)
        (try simp at ao)
        (try simp at aC)
        (try have aK:wr.heap.size<w1.heap.size:=by omega)
        replace a:=Hh a))
    all_goals
     go_wp2_with fail;go_meet
     first
      | exact l.s1 a.out
      | exact l.s2 a.out
   case rest=>
    obtain ⟨i,g,rfl,hg,an⟩:=hcut;have d0:=Bk hg 0 (.int .i64 m) rfl;have d1:=Bk hg 1 (.int .i64 n) rfl;have e0:=Bk i.ny 0 (.int .i64 o) rfl;have e1:=Bk i.ny 1 (.int .i64 q) rfl;have fe:=Af i.ny;have kc:∀ W,CS prog 251 #[.agg #[.int .i64 m,.int .i64 n],.agg #[.int .i64 o,.int .i64 q]] W fun e w'=>e=.returned (.int .i64 (F6 (m,n) (o,q)))/\BW W.heap.size W w':=fun W=>Aif (m,n) (o,q) W z.1 z.2 f.1 f.2;obtain ⟨cv,s⟩:=Ex (F6 (m,n) (o,q));rw [<- s] at kc;have h:Fd u v (d+1)=if d=0\/0<cv then ((m,n),(d:Int)) else ((o,q),at_):=(by rw [t.out,s]);clear u0 v0 aD aE;replace ⟨i,hg,an,kc,s,h⟩:=H6 i hg an kc s h;by_cases ap:d=0
    .subst ap;have c:Fd u v 1=((m,n),(0:Int)):=(by rw [h.out,Ad (.inl rfl)];rfl);replace c:=Hh c;go_wp2_with fail;go_roundw
     case rel=>exact ⟨1,rfl,by omega,by rw [c.out];rfl,Hh (by rw [c.out];exact i.set m n)⟩
     case measure=>simp [intOf]
    .have aI:((d:Int) == 0)=false:=(by simp;omega);have aJ:¬ (d:Int)=0:=(by omega);by_cases aF:0<cv
     .have c:Fd u v (d+1)=((m,n),(d:Int)):=(by rw [h.out,Ad (.inr aF)]);replace c:=Hh c;go_wp2_with (go_at_call 251;(with_reducible refine (kc.out _).mono ?_);rintro e w1 ⟨rfl,a⟩;have d0:=(Ag a (Ab hg.out)).trans d0;have d1:=(Ag a (Ab hg.out)).trans d1;have e0:=(Ag a (Ab i.ny)).trans e0;have e1:=(Ag a (Ab i.ny)).trans e1;have fe:=Af (Ae a i.ny (Ab i.ny));replace i:=Hh (i.next a);replace a:=Hh a);go_roundw
      case rel=>exact ⟨d+1,by go_num,by omega,by rw [c.out],Hh (by rw [c.out];exact i.set m n)⟩
      case measure=>simp [intOf];omega
     .have c:Fd u v (d+1)=((o,q),at_):=(by rw [h.out,Ac (by omega)]);replace c:=Hh c;go_wp2_with (go_at_call 251;(with_reducible refine (kc.out _).mono ?_);rintro e w1 ⟨rfl,a⟩;replace i:=Hh (i.next a);replace a:=Hh a);go_roundw
      case rel=>exact ⟨d+1,by go_num,by omega,by rw [c.out],Hh (by rw [c.out];exact i.out)⟩
      case measure=>simp [intOf];omega
  .have aB:d=4:=(by omega);subst aB;obtain ⟨o,q⟩:=k;have u0:=Bk l.ny 0 (.int .i64 o) rfl;have u1:=Bk l.ny 1 (.int .i64 q) rfl;have r0:=Bk l.res 0 (.int .i64 0) rfl;have r1:=Bk l.res 1 (.int .i64 0) rfl;have fr:=Af l.res;replace ⟨b,j,f⟩:=H3 b j f;go_wp2;refine Ak (v:=.tuple #[.agg #[.int .i64 o,.int .i64 q],.int .i64 at_]) (by simp [results,results250,go_sem,r0,r1]) rfl ⟨by rw [<- b.out,<- j.out],?_⟩;exact B9 (B9 l.low (by omega)) (by omega)
def S4 (s:dn):Int:=min (max s.array 0) 50
def Kt (l:List dn):Int:=(l.map S4).foldl (·+·) 0
def Jn (l:List ee):Int:=(l.map fun e=>Kt e.specs).foldl (·+·) 0
structure Akv (es:List ee):Prop where
 len:es.length<=60
 sum:Jn es<=16
def Acj (es:List ee) (w:WD) (e:Ending) (w':WD):Prop:=∃ b:Bool,e=.returned (.bool b)/\(b=true->Akv es)/\BW w.heap.size w w'
def Akw (l:List Int) (x:Int):(l++[x]).foldl (·+·) 0=l.foldl (·+·) 0+x:=by rw [Kw];rfl
def Ayz (l:List dn) (s:dn):Kt (l++[s])=Kt l+S4 s:=by unfold Kt;rw [C9];exact Akw _ _
def Akx (l:List ee) (e:ee):Jn (l++[e])=Jn l+Kt e.specs:=by unfold Jn;rw [C9];exact Akw _ _
def Ay0 (s:dn):0<=S4 s/\S4 s<=50:=by unfold S4;omega
structure vr (w:WD) (es:List ee) (i:Nat) (n:Int) (wr:WD):Prop where
 low:BW w.heap.size w wr
 sum:n=Jn (es.take i)
 bd:0<=n/\n<=16
structure vq (w:WD) (es:List ee) (sp:List dn) (i k:Nat) (n:Int) (wr:WD):Prop where
 low:BW w.heap.size w wr
 sum:n=Jn (es.take i)+Kt (sp.take k)
 bd:0<=n/\n<=16+50*(k:Int)
def Aky  (so:Option Addr) (m c:Nat) (xs:List cz) (h:S2 w so m xs) :
  CS prog 19 #[.slice so m c] w (Acj (xs.map cz.pl) w):=by
 have hl:=h.len;obtain ⟨p,q⟩:=Ex (xs.map cz.pl);have u:p.length=m:=by rw [q,At,hl]
 rw [<- q];by_cases hm:60<m
 .have d1:decide ((60:Int)<(m:Int))=true:=Av (by omega);have hp:Acj p w (.returned (.bool false)) w:=⟨false,rfl,fun c=>(by cases c),Below.refl _ _⟩;replace ⟨h,hl,q,u,hp⟩:=H5 h hl q u hp;go_enter func19,ntmps19;go_wp2_with fail;go_ret;exact hp.out
 .have d1:decide ((60:Int)<(m:Int))=false:=Ax (by omega);have aL:vr w p 0 0 w:=⟨Below.refl _ _,by simp [Jn],by omega⟩;replace ⟨h,hl,q,u,aL⟩:=H5 h hl q u aL;go_enter func19,ntmps19;go_wp2_with fail;go_loopw [3,4,5,6] (fun nv iv _ _ wr=>∃ (i:Nat) (n:Int),nv=.int .i64 n/\iv=.int .i64 i/\i<=m/\Hid (vr w p i n wr)) (fun _ iv _ _ _=>m-(intOf iv).toNat)
  case atStart=>exact ⟨0,0,rfl,rfl,Aq _,aL⟩
  case round=>
   rename WD=>wo
   obtain ⟨i,n,rfl,rfl,hi,hS⟩:=hrel;by_cases hc:i<m
   .have aW:(i:Int)<m:=(by omega);have a3:(0:Int)<=(i:Int):=(by omega);obtain ⟨x,hx⟩:=Ge xs i (by have:=hl.out;omega);obtain ⟨b,aY,rfl,aO,aN,aS⟩:=h.cell i x hx
    have ao:p.take (i+1)=p.take i++[x.pl]:=by
     have:p[i]?=some x.pl:=by rw [q.out,Bh,hx];rfl
     exact I7 this
    obtain ⟨en,aT,z,ec,aH⟩:=x;obtain ⟨sl,an⟩:=Ex (aH.map ay.pl);have aD:∀ W:WD,BW w.heap.size w W->W.cell? ⟨b,aY+i*10+9,none⟩=some (.slice aT z ec):=fun W hW=>(Ag hW aO).trans (aN 9 (by omega));have ao:p.take (i+1)=p.take i++[⟨en,sl⟩]:=(by rw [ao,an];rfl);have aE:Jw w aT z aH:=aS.de;have s:=aE.len;have q9:=aD wo hS.low;replace ⟨hx,aO,aN,aS,ao,an,aD,aE⟩:=H8 hx aO aN aS ao an aD aE;replace s:=Hh s;by_cases h8:8<z
    .have d8:decide ((8:Int)<(z:Int))=true:=Av (by omega);go_wp2_with fail;go_ret;exact ⟨false,rfl,fun c=>(by cases c),hS.low⟩
    .have d8:decide ((8:Int)<(z:Int))=false:=Ax (by omega);have aJ:vq w p sl i 0 n wo:=⟨hS.low,by rw [hS.sum];simp [Kt],by have:=hS.bd;omega⟩;replace aJ:=Hh aJ;go_wp2_with fail;clear q9;go_loopw [3,5,6] (fun nv kv _ wr=>∃ (k:Nat) (n2:Int),nv=.int .i64 n2/\kv=.int .i64 k/\k<=z/\Hid (vq w p sl i k n2 wr)) (fun _ kv _ _=>z-(intOf kv).toNat)
     case atStart=>exact ⟨0,n,rfl,rfl,Aq _,aJ⟩
     case round=>
      obtain ⟨k,n2,rfl,rfl,hk,hV⟩:=hrel;have q9:=aD _ hV.low;by_cases a2:k<z
      .have aX:(k:Int)<z:=(by omega);have a4:(0:Int)<=(k:Int):=(by omega);obtain ⟨y,hy⟩:=Ge aH k (by have:=s.out;omega);obtain ⟨t,a,rfl,am,ad,aU⟩:=aE.cell k y hy;have d:=fun j hj=>(Ag hV.low am).trans (ad j hj)
       have ap:sl.take (k+1)=sl.take k++[y.pl]:=by
        have:sl[k]?=some y.pl:=by rw [an.out,Bh,hy];rfl
        exact I7 this
       obtain ⟨⟨f,e,nodes,⟨da,db,dc,dd⟩,aB,aA,array,ae,al,after⟩,aG,sn,aF⟩:=y;have z0:wr.cell? ⟨t,a+k*13,none⟩=some (.string f):=d 0 (by omega);have z1:wr.cell? ⟨t,a+k*13+1,none⟩=some (.string e):=d 1 (by omega);have z2:wr.cell? ⟨t,a+k*13+2,none⟩=some (.int .i64 nodes):=d 2 (by omega);have z3:wr.cell? ⟨t,a+k*13+3,none⟩=some (.int .i64 da):=d 3 (by omega);have z4:wr.cell? ⟨t,a+k*13+4,none⟩=some (.int .i64 db):=d 4 (by omega);have z5:wr.cell? ⟨t,a+k*13+5,none⟩=some (.int .i64 dc):=d 5 (by omega);have z6:wr.cell? ⟨t,a+k*13+6,none⟩=some (.int .i64 dd):=d 6 (by omega);have z7:wr.cell? ⟨t,a+k*13+7,none⟩=some (.int .i64 aB):=d 7 (by omega);have z8:wr.cell? ⟨t,a+k*13+8,none⟩=some (.int .i64 aA):=d 8 (by omega);have z9:wr.cell? ⟨t,a+k*13+9,none⟩=some (.int .i64 array):=d 9 (by omega);have aZ:wr.cell? ⟨t,a+k*13+10,none⟩=some (.int .i64 ae):=d 10 (by omega);have a0:wr.cell? ⟨t,a+k*13+11,none⟩=some (.bool al):=d 11 (by omega);have a1:wr.cell? ⟨t,a+k*13+12,none⟩=some (.slice aG sn aF):=d 12 (by omega);replace ⟨ad,d,am,aU,ap,hy⟩:=H6 ad d am aU ap hy;go_upto_region 13 with fail;clear z0 z1 z2 z3 z4 z5 z6 z7 z8 z9 aZ a0 a1;obtain ⟨nb,aQ⟩:=Ex (wr.heap.size);obtain ⟨W1,aC⟩:=Ex (wr.alloc (.cells (⟨⟨f,e,nodes,⟨da,db,dc,dd⟩,aB,aA,array,ae,al,after⟩,aG,sn,aF⟩:ay).cells 33 (0,0)));have aM:BW wr.heap.size wr W1:=(by rw [aC];exact Bn);have v:W1.heap[nb]?=some (.cells (⟨⟨f,e,nodes,⟨da,db,dc,dd⟩,aB,aA,array,ae,al,after⟩,aG,sn,aF⟩:ay).cells 33 (0,0)):=(by rw [aC,aQ];exact Ah _ _);rw [<- aC,<- aQ];clear aC aQ q9;have l:=hV.low.trans (aM.mono hV.low.size);have p0:=Bk v 0 (.string f) rfl;have p1:=Bk v 1 (.string e) rfl;have p9:=Bk v 9 (.int .i64 array) rfl;have a7:=Bk v 12 (.slice aG sn aF) rfl;have o:Acj p w (.returned (.bool false)) W1:=⟨false,rfl,fun c=>(by cases c),l⟩;replace ⟨aM,v,l,o⟩:=H4 aM v l o;by_cases g1:20<sn
       .have e1:decide ((20:Int)<(sn:Int))=true:=Av (by omega);go_wp2_with fail;go_ret;exact o.out
       have e1:decide ((20:Int)<(sn:Int))=false:=Ax (by omega);by_cases g2:100<f.size
       .have e2:decide ((100:Int)<(f.size:Int))=true:=Av (by omega);go_wp2_with fail;go_ret;exact o.out
       have e2:decide ((100:Int)<(f.size:Int))=false:=Ax (by omega);by_cases g3:100<e.size
       .have e3:decide ((100:Int)<(e.size:Int))=true:=Av (by omega);go_wp2_with fail;go_ret;exact o.out
       have e3:decide ((100:Int)<(e.size:Int))=false:=Ax (by omega);have aV:=hV.bd;have a6:IntKind.i64.wrap (n2+min (max array 0) 50)=n2+min (max array 0) 50:=Id (by omega) (by omega)
       have aK:vq w p sl i (k+1) (n2+min (max array 0) 50) W1:=⟨l.out,by
        rw [ap.out,Ayz,hV.sum];show _+min (max array 0) 50=_+(_+min (max array 0) 50)
        omega,by omega⟩
       replace ⟨aK,aV⟩:=H2 aK aV;go_wp2_with fail;go_roundw
       case rel=>exact ⟨k+1,_,rfl,by go_num,by omega,aK⟩
       case measure=>simp [intOf];omega
      .have aX:¬ (k:Int)<z:=(by omega);have a5:k=z:=(by omega);have r:sl.take k=sl:=C8 (by rw [an.out,At,s.out];omega);have av:n2=Jn (p.take (i+1)):=(by rw [ao.out,Akx,hV.sum,r]);have ac:=hV.bd;replace ⟨r,av,ac⟩:=H3 r av ac;by_cases g:16<n2
       .have e1:=Av g;go_wp2_with fail;go_ret;exact ⟨false,rfl,fun c=>(by cases c),hV.low⟩
       .have e1:=Ax g;have aI:vr w p (i+1) n2 wr:=⟨hV.low,av.out,by have:=ac.out;omega⟩;replace aI:=Hh aI;go_wp2_with fail;go_roundw
        case rel=>exact ⟨i+1,_,rfl,by go_num,by omega,aI⟩
        case measure=>simp [intOf];omega
   .have aW:¬ (i:Int)<m:=(by omega);have aR:Akv p:=(by have h1:=hS.sum;have h2:=hS.bd;rw [C8 (by rw [u.out];omega)] at h1;exact ⟨by rw [u.out];omega,by omega⟩);have aP:=hS.low;replace ⟨aR,aP⟩:=H2 aR aP;go_wp2_with fail;go_ret;exact ⟨true,rfl,fun _=>aR.out,aP.out⟩
