/- Parts of a proof. No condition. -/
import Derived.Test.YtimlcnhcjndijaaGreatDoorJ19
set_option linter.all false
set_option maxRecDepth 100000
set_option maxHeartbeats 6400000
namespace Go.Proofs.YtimlcnhcjndijaaGreatDoor
open Option renaming some->O,none->I
open Obj renaming cells->J
open Value renaming slice->V,pointer->K,tuple->E,bool->Q,int->Z,string->D
open Ending renaming returned->Y
open IntKind renaming i64->G
open Go renaming World->WD,Value->VL,Calls->CS
open Go.RowKit renaming Below->BW
open Go.Proofs.Tryz
section
open Go.RowKit Go.Maps Go.Lib
structure Gt (w0 w':WD) (x y:aj):Prop where
 pl:y.pl=x.pl
 sn:y.sn=x.sn
 gn:y.gn=x.gn
 pn:y.pn=x.pn
 after:At w' y.so y.sn x.pl.sp.after
 om:y.sn<=y.sc
 ri:∀b o,y.so=O ⟨b,o,I⟩->w0.heap.size<=b
 we:∀b o,y.so=O ⟨b,o,I⟩->∃cc,w'.heap[b]?=O (J cc 3 (0,0))
 ah:At w' y.go y.gn x.pl.ah
 ou:y.gn<=y.gc
 rm:∀b o,y.go=O ⟨b,o,I⟩->w0.heap.size<=b
 wu:∀b o,y.go=O ⟨b,o,I⟩->∃cc,w'.heap[b]?=O (J cc 3 (0,0))
 parts:w'.ownsRow w0.heap.size 65 2 (V y.po y.pn y.pc) y.pn (Aw Fr x.pl.parts)
def Als (w:WD) (x:aj) (e:Ending) (w':WD):Prop:=∃y,e=Y y.val/\Gt w w' x y/\BW w.heap.size w w'
structure Ml (w:WD) (y:aj) (W:WD):Prop where
 low:BW w.heap.size w W
 res:W.heap[w.heap.size]?=O (J aj.zero.cells 46 (0,0))
 cp:W.heap[w.heap.size+1]?=O (J y.cells 46 (0,0))
def Ml.next {w W b:WD} {y:aj} (h:Ml w y W) (a:BW W.heap.size W b):Ml w y b:=
 ⟨h.low.trans (a.mono h.low.size),Ae a h.res (Ab h.res),Ae a h.cp (Ab h.cp)⟩
def Ml.set {w W:WD} {y z:aj} (h:Ml w y W) (o:Nat) (v:VL) (e:y.cells.setIfInBounds o v=z.cells):Ml w z (W.setCell ⟨w.heap.size+1,o,I⟩ v):=
 ⟨⟨h.low.os,h.low.tape,h.low.output,by have:=h.low.size;simpa[World.setCell]using this,λk a=>(C1 _ _ _ _ (λe=>by simp at e;omega)).trans (h.low.block k a)⟩,(C1 _ _ _ _ (λe=>by simp at e)).trans h.res,by rw[<-e];exact Ap h.cp _ _⟩
def Fi:(prog.info? 46).map (·.size)=O 22:=by kernel_rfl
def Og {B:Nat} {a w:WD} (h:BW B a w) {g:Nat} (d:B<=g) (c:Array VL):BW B a (w.setRow g c):=
 ⟨h.os,h.tape,h.output,by have:=h.size;simpa[World.setRow]using this,λk b=>(Ug w g k c ao9).trans (h.block k b)⟩
def Ml.new (w:WD) (x:aj):Ml w x (((w.alloc (J Jz 46)).alloc (J Jz 46)).setRow (w.heap.size+1) x.cells):=
 ⟨Og (Bn.alloc as9 _) ao9 _,(Ug _ _ _ _ ao9).trans (Aj _ (Ah _ _)),La _ _ _ _ _ _ (A6 _ _ as9)⟩
def Alt {S:Nat->Prop} {w:WD} {g:Nat} (c:Array VL) (_:w=w) (h:S g):Mod S w (w.setRow g c):=⟨rfl,rfl,rfl,by simp[World.setRow],λk _ a=>Ug w g k c (λe=>a (e▸h))⟩
def Tn (a k:Nat):Prop:=k=a\/k=a+1
def Zn {w:WD} {B B' size n:Nat} {T:TypeId} {v:VL} {xs:List VL} (h:w.ownsRow B T size v n xs) (a:B'<=B):w.ownsRow B' T size v n xs:=
 ⟨h.1,h.2.imp id λ⟨g,cap,cur,e,hg,r⟩=>⟨g,cap,cur,e,A8 a hg,r⟩⟩
def Lw (x:aj):x.cells.all (·.oneCell')=true:=by simp[aj.cells,Value.oneCell']
def Alu {w:WD} {b:Nat} {x:aj} {S:Nat->Prop} (a:Bj w b x) (q:O2 w S x) (h1:x.sn<=1000) (h2:x.gn<=1000) (h3:x.pn<=1000000) :
  CS prog 47 #[K (O ⟨b,0,I⟩)] w (Als w x):=by
 have ao:=Ab a;have g:=Ml.new w x;obtain⟨W1,r⟩:=Ex (((w.alloc (J Jz 46)).alloc (J Jz 46)).setRow (w.heap.size+1) x.cells);rw[<-r]at g;have av:w.heap.size+2=W1.heap.size:=by rw[r];simp[World.setRow]
 have z:(w.alloc (J Jz 46)).heap[b]?=O (J x.cells 46 (0,0)):=Aj _ a;have ad:((w.alloc (J Jz 46)).alloc (J Jz 46)).heap[w.heap.size+1]?=O (J Jz 46 (0,0)):=A6 _ _ as9;have x1:=Bk (Ae g.low a ao) 13 (V x.so x.sn x.sc) rfl;have al:∀W,BW w.heap.size w W->CS prog 87 #[V x.so x.sn x.sc] W (Uz x.sn x.pl.sp.after W):=λW hW=>Zl _ _ _ _ _ (q.after.row.low hW) h1;have am:∀W,BW w.heap.size w W->CS prog 87 #[V x.go x.gn x.gc] W (Uz x.gn x.pl.ah W):=λW hW=>Zl _ _ _ _ _ (q.ah.row.low hW) h2;have an:∀W,BW w.heap.size w W->CS prog 88 #[V x.po x.pn x.pc] W (Zm W x):=λW hW=>Azs (Ca.low q.parts hW) h3;have k1:=al _ g.low;replace⟨a,q,h1,h2,h3,g,al,am⟩:=H8 a q h1 h2 h3 g al am;replace⟨an,k1,z,ad,av⟩:=H5 an k1 z ad av;go_enter func47,ntmps47;go_upto_region 2 with(first|(refine Wu rfl 46 _ rfl b rfl 46 x.cells (0,0) _ (by first|exact z.out|exact a.out) K8 rfl Fi ?_)|(refine L2 rfl 46 _ _ rfl (w.heap.size+1) x.cells rfl rfl 46 _ ad.out Fi rfl (Lw x) ?_));rw[<-r];clear r z ad;go_wp2_with fail;refine k1.mono ?_;rintro e w2 ⟨s1,c1,rfl,q1,i1,f1,b1⟩;have j:=g.next b1;have aF:=Bk j.cp 13 (V x.so x.sn x.sc) rfl;have aC:=Ag j.cp;have h:Ml w { x with so:=s1,sc:=c1 } (w2.setCell ⟨w.heap.size+1,13,I⟩ (V s1 x.sn c1)):=j.set 13 _ rfl;obtain⟨W3,s⟩:=Ex (w2.setCell ⟨w.heap.size+1,13,I⟩ (V s1 x.sn c1));rw[<-s]at h;have x2:=Bk (Ae h.low a.out ao) 20 (V x.go x.gn x.gc) rfl;have k2:=am _ h.low;replace⟨q1,i1,f1,b1,j,h,k2⟩:=H7 q1 i1 f1 b1 j h k2;clear x1;go_upto_region 3 with fail;rw[<-s];have aA:=Hh s;clear s aF aC;go_wp2_with fail;refine k2.mono ?_;rintro e w4 ⟨s2,c2,rfl,q2,i2,f2,b2⟩;have l:=h.next b2;have aG:=Bk l.cp 20 (V x.go x.gn x.gc) rfl;have aD:=Ag l.cp;have i:Ml w { x with so:=s1,sc:=c1,go:=s2,gc:=c2 } (w4.setCell ⟨w.heap.size+1,20,I⟩ (V s2 x.gn c2)):=l.set 20 _ rfl;obtain⟨W5,t⟩:=Ex (w4.setCell ⟨w.heap.size+1,20,I⟩ (V s2 x.gn c2));rw[<-t]at i;have x3:=Bk (Ae i.low a.out ao) 21 (V x.po x.pn x.pc) rfl;have k3:=an _ i.low;replace⟨q2,i2,f2,b2,l,i,k3⟩:=H7 q2 i2 f2 b2 l i k3;clear x2;go_upto_region 4 with fail;rw[<-t];have aB:=Hh t;clear t aG aD;go_wp2_with fail;refine k3.mono ?_;rintro e w6 ⟨s3,c3,rfl,o3,b3⟩;have m:=i.next b3;have aH:=Bk m.cp 21 (V x.po x.pn x.pc) rfl;have aE:=Ag m.cp;have d:Ml w { x with so:=s1,sc:=c1,go:=s2,gc:=c2,po:=s3,pc:=c3 } (w6.setCell ⟨w.heap.size+1,21,I⟩ (V s3 x.pn c3)):=m.set 21 _ rfl;obtain⟨W7,u⟩:=Ex (w6.setCell ⟨w.heap.size+1,21,I⟩ (V s3 x.pn c3));rw[<-u]at d
 have b7:∀S:Nat->Prop,S (w.heap.size+1)->Mod S w6 W7:=λS hS=>by rw[u];exact Mod.setCell _ _ _ _ hS
 obtain⟨y,hy⟩:∃y:aj,y={ x with so:=s1,sc:=c1,go:=s2,gc:=c2,po:=s3,pc:=c3 }:=⟨_,rfl⟩;rw[<-hy]at d;have ap:=d.cp;have ac:=d.res;have n:(W7.setRow w.heap.size y.cells).heap[w.heap.size]?=O (J y.cells 46 (0,0)):=La _ _ _ _ _ _ ac;have p:=Og d.low Ln y.cells
 have f:Als w x (Y y.val) (W7.setRow w.heap.size y.cells):=by
  have m3:Mod (Tn w.heap.size) w2 W3:=by rw[aA.out];exact Mod.setCell _ _ _ _ (.inr rfl)
  have m5:Mod (Tn w.heap.size) w4 W5:=by rw[aB.out];exact Mod.setCell _ _ _ _ (.inr rfl)
  have m7:Mod (Tn w.heap.size) w6 W7:=b7 _ (.inr rfl);have me:Mod (Tn w.heap.size) W7 (W7.setRow w.heap.size y.cells):=Alt _ rfl (.inl rfl);have M6:=m7.trans me;have M4:=(m5.trans (Mod.af b3)).trans M6;have M2:=(m3.trans (Mod.af b2.out)).trans M4;have n1:=av.out;have n3:=m3.size;have n2:=b1.size;have n4:=b2.size;have n5:=m5.size;have j1:=(Eo.mod (⟨i1.out,λ_ b o e c=>by obtain⟨_,e2,_⟩:=f1 b o e;rcases c with c|c<;>omega⟩:Eo w2 (Tn w.heap.size) s1 x.sn x.pl.sp.after) M2 λ_ _ c=>c).row;have j2:=(Eo.mod (⟨i2.out,λ_ b o e c=>by obtain⟨_,e2,_⟩:=f2 b o e;rcases c with c|c<;>omega⟩:Eo w4 (Tn w.heap.size) s2 x.gn x.pl.ah) M4 λ_ _ c=>c).row
  have j3:=Zn (Bd o3 M6 λk e c=>by
   obtain⟨_,_,e2⟩:=C7 o3 e
   rcases c with c|c<;>omega) (show w.heap.size<=W5.heap.size by omega)
  refine⟨y,rfl,?_,p⟩;subst hy
  exact⟨rfl,rfl,rfl,rfl,j1,q1.out,λb o e=>by obtain⟨_,e2,_⟩:=f1 b o e;omega,λb o e=>by
    obtain⟨_,e2,_,cc,e4⟩:=f1 b o e
    exact⟨cc,M2.au e4 (λc=>by rcases c with c|c<;>omega)⟩,j2,q2.out,λb o e=>by obtain⟨_,e2,_⟩:=f2 b o e;omega,λb o e=>by
    obtain⟨_,e2,_,cc,e4⟩:=f2 b o e
    exact⟨cc,M4.au e4 (λc=>by rcases c with c|c<;>omega)⟩,j3⟩
 replace⟨o3,b3,m,d,b7,hy,ap,ac⟩:=H8 o3 b3 m d b7 hy ap ac;replace⟨n,p,f⟩:=H3 n p f;clear x3;go_upto_region 5 with fail;rw[<-u];clear u aH aE;go_wp2_with (first|(refine Wu rfl 46 _ rfl (w.heap.size+1) rfl 46 y.cells (0,0) _ ap.out K8 rfl Fi ?_)|((refine L2 rfl 46 _ _ rfl w.heap.size y.cells rfl rfl 46 _ ac.out Fi rfl (Lw y) ?_)));refine Al (v:=y.val) ?_ rfl f.out;exact results_cell_row rfl _ _ w.heap.size 46 y.cells (0,0) _ rfl n.out K8 rfl Fi
def E1 {B:Nat} {a w:WD} (h:BW B a w) {g o:Nat} {v:VL} (c:B<=g):BW B a (w.setCell ⟨g,o,I⟩ v):=
 ⟨h.os,h.tape,h.output,by have:=h.size;simpa[World.setCell]using this,λk b=>(C1 _ _ _ _ (λe=>by simp at e;omega)).trans (h.block k b)⟩
def Adz {P:Program} {fn:Func} {p t0:Tmp} {a:TypeId} (h:fn.results=#[.cell p a,.tmp t0]) (tmps:Array VL) (w:WD) (g:Nat) (t:TypeId) (cs:Array VL) (fr:Nat×Nat) (d:TypeDesc)
  (i:tmps.getD p undef=K (O ⟨g,0,I⟩)) (e:w.heap[g]?=O (J cs t fr))
  (j:P.underlying a=O d) (c:(match d with | .struct _ | .array _ _=>true|_=>false)=true) (f:(P.info? a).map (·.size)=O cs.size) :
  (results fn tmps).run P w=.ok (E #[.agg cs,tmps.getD t0 undef]) w:=by
 have b:tmps[p]?.getD undef=K (O ⟨g,0,I⟩):=by simpa using i
 simp[results,h,b,asAddr,run_loadVar_row w g t a cs fr d e j c f]
def Zo (w:WD) (T:Tv) (id:Int) (e:Ending) (w':WD):Prop:=
 BW w.heap.size w w'/\(((id<1\/(T.js.length:Int)<id)/\e=Y (E #[aj.zero.val,Q false]))\/∃(k:Nat) (j:Nat×aj) (y:aj),id=(k:Int)+1/\T.js[k]?=O j/\e=Y (E #[y.val,Q true])/\Gt w w' j.2 y)
def Zp (x:aj):Prop:=x.sn<=1000/\x.gn<=1000/\x.pn<=1000000
def Gt.mod {n w' p:WD} {x y:aj} {S:Nat->Prop} (h:Gt n w' x y) (d:Mod S w' p) (f:∀b,S b->∀a,w'.heap[b]?≠O (J a 3 (0,0))/\w'.heap[b]?≠O (J a 65 (0,0))):Gt n p x y:=by
 obtain⟨a1,a2,a3,q,v,r,t,l,z,s,u,m,g⟩:=h
 have i:∀b o,y.so=O ⟨b,o,I⟩->¬S b:=λb o e c=>by obtain⟨a,h⟩:=l b o e;exact(f b c a).1 h
 have j:∀b o,y.go=O ⟨b,o,I⟩->¬S b:=λb o e c=>by obtain⟨a,h⟩:=m b o e;exact(f b c a).1 h
 refine⟨a1,a2,a3,q,?_,r,t,λb o e=>?_,?_,s,u,λb o e=>?_,Bd g d λk e c=>?_⟩
 .exact (Eo.mod (⟨v,λ_ b o e c=>i b o e c⟩:Eo w' S y.so y.sn x.pl.sp.after) d λ_ _ c=>c).row
 .obtain ⟨a,h⟩:=l b o e;exact⟨a,d.au h (i b o e)⟩
 .exact (Eo.mod (⟨z,λ_ b o e c=>j b o e c⟩:Eo w' S y.go y.gn x.pl.ah) d λ_ _ c=>c).row
 .obtain ⟨a,h⟩:=m b o e;exact⟨a,d.au h (j b o e)⟩
 .obtain ⟨a,h,_⟩:=C7 g e;exact(f k c a).2 h
def Gt.low {b w' d:WD} {x y:aj} (h:Gt b w' x y) (a:BW w'.heap.size w' d):Gt b d x y:=
 h.mod (S:=λ_=>False) ⟨a.os,a.tape,a.output,a.size,λk e _=>a.block k e⟩ λ_ c=>c.elim
def Gt.yo {a w' d:WD} {x y:aj} (h:Gt a w' x y) {g:Nat} {cs:Array VL} (e:w'.heap[g]?=O (J cs 46 (0,0))) (f:Mod (λk=>k=g) w' d):Gt a d x y:=
 h.mod f λb c i=>by
  subst c;rw[e];exact⟨as9,as9⟩
def Gt.mono {c w1 w':WD} {x y:aj} (h:Gt c w' x y) (a:w1.heap.size<=c.heap.size):Gt w1 w' x y:=
 ⟨h.pl,h.sn,h.gn,h.pn,h.after,h.om,λb o e=>A8 a (h.ri b o e),h.we,h.ah,h.ou,λb o e=>A8 a (h.rm b o e),h.wu,Zn h.parts a⟩
def Azt {w:WD} {T:Tv} (h:Ao w T) (l:∀j,j∈T.js->Zp j.2) (id:Int) :
  CS prog 16 #[K (O ⟨T.tb,0,I⟩),Z G id] w (Zo w T id):=by
 obtain⟨W0,c⟩:=Ex (w.alloc (J Jz 46));have o:BW w.heap.size w W0:=by rw[c];exact Bn
 have ac:=o.size;have ad:w.heap.size<W0.heap.size:=by rw[c];simp
 have n:=h.low o;have q:W0.heap[w.heap.size]?=O (J aj.zero.cells 46 (0,0)):=by rw[c];exact Ah _ _
 obtain⟨m,t⟩:=Ex (T.js.length);obtain⟨tb,ht⟩:=Ex (T.tb)
 obtain⟨so,cap,c4,d⟩:∃so cap,W0.cell? ⟨T.tb,4,I⟩=O (V so T.js.length cap)/\T.js.length<=9223372036854775807:=by
  rcases n.ab.2 with⟨e,h0⟩|⟨g,cap,am,e,_,_,h1,h2,_⟩
  .exact ⟨I,0,by rw[Aa n.head 4,h0,<-e];rfl,ao9⟩
  .exact ⟨_,_,by rw[Aa n.head 4,<-e];rfl,by unfold maxLen at h2;omega⟩
 rw[<-t,<-ht]at c4;rw[<-t]at d;rw[<-ht];by_cases q1:id<1
 .have i:Zo w T id (Y (E #[aj.zero.val,Q false])) (W0.setRow w.heap.size aj.zero.cells):=⟨Og o Ln _,.inl ⟨.inl q1,rfl⟩⟩;have a:=La W0 w.heap.size _ aj.zero.cells 46 (0,0) q;replace⟨h,l,o,n,q,t,ht,d⟩:=H8 h l o n q t ht d;replace⟨i,a⟩:=H2 i a;go_enter func16,ntmps16;go_upto_region 1 with fail;rw[<-c];clear c;go_wp2_with (refine L2 rfl 46 _ _ rfl w.heap.size aj.zero.cells rfl rfl 46 _ q.out Fi rfl (Lw aj.zero) ?_);refine Al (v:=E #[aj.zero.val,Q false]) ?_ rfl i.out;exact Adz (p:=4) (t0:=5) rfl _ _ w.heap.size 46 aj.zero.cells (0,0) _ rfl a.out K8 rfl Fi
 by_cases q2:(m:Int)<id
 .have i:Zo w T id (Y (E #[aj.zero.val,Q false])) (W0.setRow w.heap.size aj.zero.cells):=⟨Og o Ln _,.inl ⟨.inr (by rw[<-t];exact q2),rfl⟩⟩;have a:=La W0 w.heap.size _ aj.zero.cells 46 (0,0) q;replace⟨h,l,o,n,q,t,ht,d⟩:=H8 h l o n q t ht d;replace⟨i,a⟩:=H2 i a;go_enter func16,ntmps16;go_upto_region 1 with fail;rw[<-c];clear c;go_wp2_with (refine L2 rfl 46 _ _ rfl w.heap.size aj.zero.cells rfl rfl 46 _ q.out Fi rfl (Lw aj.zero) ?_);refine Al (v:=E #[aj.zero.val,Q false]) ?_ rfl i.out;exact Adz (p:=4) (t0:=5) rfl _ _ w.heap.size 46 aj.zero.cells (0,0) _ rfl a.out K8 rfl Fi
 obtain⟨k,rfl⟩:∃k:Nat,id=(k:Int)+1:=⟨(id-1).toNat,ao9⟩;have hk:k<T.js.length:=ao9
 obtain⟨j,hj⟩:=Ge T.js k hk;obtain⟨g,al,u,cj,_,_⟩:=n.l7 hj;rw[<-t,<-ht]at u;rw[u]at c4;injection c4 with c4;injection c4 with e1 e2 e3;subst e1;subst e3;have c4:=u;clear u e2;have f:=Ai hj;obtain⟨s1,s2,s3⟩:=l j f;have kc:=Alu (n.box j f) (n.ok j f) s1 s2 s3;have ao:(k:Int)<m:=ao9
 have an:(0:Int)<=(k:Int):=ao9
 obtain⟨b,x⟩:=j;simp only at cj kc;replace⟨h,l,o,n,q,t,ht,hj⟩:=H8 h l o n q t ht hj;replace⟨f,s1,s2,s3,kc⟩:=H5 f s1 s2 s3 kc;go_enter func16,ntmps16;go_upto_region 1 with fail;rw[<-c];clear c;go_wp2_with fail;refine kc.mono ?_;rintro e w2 ⟨y,rfl,hy,z⟩;have r:=Ae z q.out ad;have a:=La w2 w.heap.size _ y.cells 46 (0,0) r
 have s:Zo w T ((k:Int)+1) (Y (E #[y.val,Q true])) (w2.setRow w.heap.size y.cells):=
  ⟨Og (o.trans (z.mono ac)) Ln _,.inr ⟨k,_,y,rfl,hj.out,rfl,(hy.yo r (Alt _ rfl rfl)).mono ac⟩⟩
 replace⟨hy,z,r,a,s⟩:=H5 hy z r a s;clear c4 cj;go_wp2_with (refine L2 rfl 46 _ _ rfl w.heap.size y.cells rfl rfl 46 _ r.out Fi rfl (Lw y) ?_);refine Al (v:=E #[y.val,Q true]) ?_ rfl s.out;exact Adz (p:=4) (t0:=5) rfl _ _ w.heap.size 46 y.cells (0,0) _ rfl a.out K8 rfl Fi
def Ad0:(prog.info? 46).map (λi=>(i.zero,i.size,i.bytes))=O (O aj.zero.val,22,232):=by kernel_rfl
structure Ph (w:WD) (js:List (Nat×aj)) (sv:VL) (L:List aj) (wr:WD):Prop where
 low:BW w.heap.size w wr
 row:wr.ownsRow w.heap.size 46 22 sv L.length (Aw aj.cells L)
 each:∀(i:Nat) (y:aj),L[i]?=O y->∃j:Nat×aj,js[i]?=O j/\Gt w wr j.2 y
def Azu (w:WD) (T:Tv) (e:Ending) (w':WD):Prop:=∃(sv:VL) (L:List aj),e=Y sv/\L.length=T.js.length/\Ph w T.js sv L w'
def Ph.next {w wr f t:WD} {js:List (Nat×aj)} {s v:VL} {L:List aj} {j:Nat×aj} {y:aj} (h:Ph w js s L wr) (hj:js[L.length]?=O j)
  (hy:Gt wr f j.2 y) (m:BW wr.heap.size wr f) (n:t.ownsRow w.heap.size 46 22 v (L.length+1) (Aw aj.cells L++y.cells.toList)) (hg:(f.alloc (J y.cells 46)).grownBy t s.ownBlock) :
  Ph w js v (L++[y]) t:=by
 have d:BW f.heap.size f (f.alloc (J y.cells 46)):=Bn;have g:=Bd (S:=λ_=>False) h.row (Mod.af m |>.mono λ_ _ c=>c) λ_ _ c=>c;have a:=Bd (S:=λ_=>False) g (Mod.af d |>.mono λ_ _ c=>c) λ_ _ c=>c;have q:=Mod.grown hg λ_ e=>e
 have u:∀b,s.ownBlock=O b->∀p,(f.alloc (J y.cells 46)).heap[b]?≠O (J p 3 (0,0))/\(f.alloc (J y.cells 46)).heap[b]?≠O (J p 65 (0,0)):=λb e p=>by
  obtain⟨x,hc,_⟩:=C7 a e;rw[hc];exact⟨as9,as9⟩
 have o:=h.low.size;refine⟨(h.low.trans (m.mono o)).trans ?_,?_,λi z l=>?_⟩
 .have:=(d.mono (show w.heap.size<=f.heap.size by have:=m.size;omega));exact this.trans (q.below (by have:=m.size;simp;omega) λk e=>(C7 a e).choose_spec.2)
 .rw [Cn,Ox,Q3];exact n
 .by_cases hi:i<L.length
  .rw [Fb hi]at l;obtain⟨j2,e1,e2⟩:=h.each i z l;exact⟨j2,e1,((e2.low m).low d).mod q u⟩
  .rw [Ia ao9]at l;have r:i-L.length=0:=(by have:=(An.1 l).1;simp at this;omega);rw[r]at l;simp at l;subst l
   have:i=L.length:=ao9
   subst this;exact⟨j,hj,((hy.low d).mod q u).mono o⟩
def Ad1 {w:WD} {T:Tv} (h:Ao w T) (ac:∀j,j∈T.js->Zp j.2) (ap:T.js.length<=1000) :
  CS prog 20 #[K (O ⟨T.tb,0,I⟩)] w (Azu w T):=by
 obtain⟨i0,hi,al,am,an⟩:=Cf Ad0;obtain⟨m,hm⟩:=Ex (T.js.length);obtain⟨tb,ht⟩:=Ex (T.tb)
 obtain⟨so,cap,c4,q⟩:∃so cap,w.cell? ⟨T.tb,4,I⟩=O (V so T.js.length cap)/\T.jv=V so T.js.length cap:=by
  rcases h.ab.2 with⟨e,h0⟩|⟨g,cap,aB,e,_,_,h1,h2,_⟩
  .exact ⟨I,0,by rw[Aa h.head 4,h0,<-e];rfl,by rw[h0,e]⟩
  .exact ⟨_,_,by rw[Aa h.head 4,<-e];rfl,e⟩
 rw[<-hm,<-ht]at c4;rw[<-hm]at ap q;rw[<-ht];have t:Ph w T.js (V I 0 0) [] w:=⟨Below.refl _ _,Mr _ _ _ _,λi y e=>by simp at e⟩;replace⟨h,ac,hm,ht,q,t,hi,al⟩:=H8 h ac hm ht q t hi al;replace⟨am,an⟩:=H2 am an;go_enter func20,ntmps20;go_wp2_with fail;clear c4;go_loopw [3,5,14] (λs0 _ iv wr=>∃(k:Nat) (L:List aj) (sv:VL),sv=s0/\iv=Z G k/\k<=m/\Hid (L.length=k)/\Hid (Ph w T.js sv L wr)) (λ_ _ iv _=>m-(intOf iv).toNat)
 case atStart=>exact⟨0,[],_,rfl,rfl,As _,rfl,t.out⟩
 case round=>
  obtain⟨k,L,sv,rfl,rfl,aD,hL,hG⟩:=hrel;by_cases hc:k<m
  .have ao:(k:Int)<m:=ao9;have aC:(0:Int)<=(k:Int):=ao9;have hA:=h.low hG.low;obtain⟨j,hj⟩:=Ge T.js k (by have:=hm.out;omega);obtain⟨g,aA,_,cj,_,ad⟩:=hA.l7 hj;have e1:so=O ⟨g,0,I⟩:=(by have:=q.symm.trans ad;injection this);subst e1;have a:=Ai hj;obtain⟨s1,s2,s3⟩:=ac j a;have kc:=Alu (hA.box j a) (hA.ok j a) s1 s2 s3;obtain⟨b,x⟩:=j;simp only at cj kc;replace⟨hA,hj,ad,a,s1,s2,s3,kc⟩:=H8 hA hj ad a s1 s2 s3 kc;go_wp2_with fail;refine kc.mono ?_;rintro e w2 ⟨y,rfl,hy,l⟩;have aE:=hG.low.size;have aF:=l.size
   have p:(w2.alloc (J y.cells 46)).ownsRow w.heap.size 46 22 sv k (Aw aj.cells L):=by have r:=hG.row;rw[hL.out]at r;exact Bd (S:=λ_=>False) (Bd (S:=λ_=>False) r (Mod.af l |>.mono λ_ _ c=>c) λ_ _ c=>c) (Mod.af Bn |>.mono λ_ _ c=>c) λ_ _ c=>c
   have z:∀i u,y.cells.toList[i]?=O u->(w2.alloc (J y.cells 46)).cell? ((⟨w2.heap.size,0,I⟩:Addr).add i)=O u:=λi u hu=>by
    rw[show((⟨w2.heap.size,0,I⟩:Addr).add i)=⟨w2.heap.size,i,I⟩ by unfold Addr.add;split<;>simp_all,Aa (Ah _ _) i,<-hu];simp
   have o:∀u∈y.cells.toList,u.oneCell'=true:=λu hu=>Aaf.1 (Lw y) u (by simpa using hu);clear cj;replace⟨hy,l,p,z,o⟩:=H5 hy l p z o;go_wp2_with (at_builtin;refine Ms _ rfl _ _ 57 rfl w.heap.size 46 i0 aj.zero.val 22 232 Ws hi.out al.out am.out an.out rfl ad9 _ k _ rfl p.out ⟨w2.heap.size,0,I⟩ 1 1 y.cells.toList rfl rfl z.out o.out ?c3 ?c4 ?c5 ?c6)
   case c3=>
    have mx:maxLen=9223372036854775807:=(by kernel_rfl);omega
   case c4=>omega
   case c5=>simp;omega
   case c6=>
    intro v' w3 f d s;have v:=hG.next (by rw[hL.out];exact hj.out) hy.out l.out (by rw[hL.out];exact f) d;have n:(L++[y]).length=k+1:=(by rw[Cn,hL.out];rfl);replace⟨f,d,s,v,n⟩:=H5 f d s v n;go_wp2;go_roundw
    case rel=>exact⟨k+1,L++[y],_,rfl,by go_num,ao9,n.out,v.out⟩
    case measure=>simp[intOf];omega
  .have ao:¬(k:Int)<m:=ao9;have av:k=m:=ao9;subst av;go_wp2;go_ret;exact⟨_,L,rfl,by rw[hL.out,hm.out],hG.out⟩
def Alv (u v:V4):V4:=⟨u.a+v.a,u.b+v.b,u.c+v.c,u.d+v.d⟩
def Rv (d:Nat) (u v:V4):V4:=⟨if 0<d then u.a+v.a else u.a,if 1<d then u.b+v.b else u.b,if 2<d then u.c+v.c else u.c,if 3<d then u.d+v.d else u.d⟩
def K2 (i:Int) (j:Jb) (n:Nat) (v:V4):V4:=((j.parts.take n).filter λp=>decide (p.1=i) && decide (p.2=0)).foldl (λv _=>Alv v j.sp.df) v
def Azv (i:Int) (j:Jb) (v:V4):K2 i j 0 v=v:=rfl
def Azw {i:Int} {j:Jb} {n:Nat} {v:V4} {p:Int×Int} (a:j.parts[n]?=O p):K2 i j (n+1) v=if (decide (p.1=i) && decide (p.2=0))=true then Alv (K2 i j n v) j.sp.df else K2 i j n v:=by
 unfold K2;rw[On,a,Nt,Mt];simp only[Option.toList_some];by_cases q:(decide (p.1=i) && decide (p.2=0))=true
 .rw [Ad q,Km,Ad q];rfl
 .rw [Ac q,Km,Ac q];rfl
def Azx (i:Int) (j:Jb) (v:V4):K2 i j j.parts.length v=Yf i j v:=by
 unfold K2 Yf;rw[Pu];rfl
def vr (v:V4) (m:Int):Prop:=0<=v.a/\v.a<=m/\0<=v.b/\v.b<=m/\0<=v.c/\v.c<=m/\0<=v.d/\v.d<=m
def Ad2 (x:aj):Prop:=vr x.pl.sp.df 1099511627776/\x.pn<=1000
structure Jf (w:WD) (v:V4) (wr:WD):Prop where
 low:BW w.heap.size w wr
 res:wr.heap[w.heap.size]?=O (J V4.zero.cells 30 (0,0))
 vec:wr.heap[w.heap.size+1]?=O (J v.cells 30 (0,0))
def Jf.next {w wr w':WD} {v:V4} (h:Jf w v wr) (a:BW wr.heap.size wr w'):Jf w v w':=
 ⟨h.low.trans (a.mono h.low.size),Ae a h.res (Ab h.res),Ae a h.vec (Ab h.vec)⟩
def Jf.set {w wr:WD} {v u:V4} (h:Jf w v wr) (o:Nat) (x:VL) (e:v.cells.setIfInBounds o x=u.cells):Jf w u (wr.setCell ⟨w.heap.size+1,o,I⟩ x):=
 ⟨E1 h.low ao9,(C1 _ _ _ _ (λe=>by simp at e)).trans h.res,by rw[<-e];exact Ap h.vec _ _⟩
def Jf.new (w:WD):Jf w V4.zero ((w.alloc (J V4.zero.cells 30)).alloc (J V4.zero.cells 30)):=
 ⟨Bn.alloc as9 _,Aj _ (Ah _ _),A6 _ _ as9⟩
def Qq (i:Int) (js:List Jb) (k:Nat):V4:=(js.take k).foldl (λv j=>Yf i j v) ⟨0,0,0,0⟩
def Zq {P:Program} {b:Array Oper} {rest:List Oper} {o:Oper} {a:Act} {w:WD} {Q9q:Exit->Act->WD->Prop} (c:o.guard=I) (t:TypeId) (x d:Operand) (f:o.op=.index t x d) (v:VL)
  (g:(Instr.index t (a.eval x) (a.eval d)).run P w=.ok v w) (h:wpList P b Q9q rest (a.put o.dst v) w):wpList P b Q9q (o :: rest) a w:=
 wpList_plain c λ_ e=>by
  unfold Oper.wp execOp;simp only[f,g,Sem.run_bind,Sem.run_pure,Result.andThen_ok];exact e _ _ h
def zz (a b c d:Int) (w:WD):(Instr.index 30 (.agg #[Z G a,Z G b,Z G c,Z G d]) (Z G 0)).run prog w=.ok (Z G a) w:=by kernel_rfl
def ix1 (a b c d:Int) (w:WD):(Instr.index 30 (.agg #[Z G a,Z G b,Z G c,Z G d]) (Z G 1)).run prog w=.ok (Z G b) w:=by kernel_rfl
def ix2 (a b c d:Int) (w:WD):(Instr.index 30 (.agg #[Z G a,Z G b,Z G c,Z G d]) (Z G 2)).run prog w=.ok (Z G c) w:=by kernel_rfl
def ix3 (a b c d:Int) (w:WD):(Instr.index 30 (.agg #[Z G a,Z G b,Z G c,Z G d]) (Z G 3)).run prog w=.ok (Z G d) w:=by kernel_rfl
def Azy {w:WD} {T:Tv} (h:Ao w T) (hd:∀j,j∈T.js->Ad2 j.2) (a2:T.js.length<=1000) (node:Int) :
  CS prog 17 #[K (O ⟨T.tb,0,I⟩),Z G node] w λe w'=>e=Y (Up T.pl.ab node).val/\BW w.heap.size w w':=by
 obtain⟨m,hm⟩:=Ex (T.js.length);obtain⟨tb,ht⟩:=Ex (T.tb);have al:=Jf.new w;obtain⟨W0,aJ⟩:=Ex ((w.alloc (J #[Z G 0,Z G 0,Z G 0,Z G 0] 30)).alloc (J #[Z G 0,Z G 0,Z G 0,Z G 0] 30));have al:Jf w V4.zero W0:=by rw[aJ];exact al
 have av:=h.low al.low
 obtain⟨so,cap,c4,aG⟩:∃so cap,W0.cell? ⟨T.tb,4,I⟩=O (V so T.js.length cap)/\T.jv=V so T.js.length cap:=by
  rcases av.ab.2 with⟨e,h0⟩|⟨g,cap,be,e,_,_,h1,h2,_⟩
  .exact ⟨I,0,by rw[Aa av.head 4,h0,<-e];rfl,by rw[h0,e]⟩
  .exact ⟨_,_,by rw[Aa av.head 4,<-e];rfl,e⟩
 rw[<-hm,<-ht]at c4;rw[<-hm]at a2 aG;rw[<-ht];replace⟨h,hd,hm,ht,aG,al,av⟩:=H7 h hd hm ht aG al av;go_enter func17,ntmps17;go_upto_region 2 with fail;rw[<-aJ];clear aJ;go_wp2_with fail;clear c4;go_loopw [7,9,10,11,21,30,48] (λ_ _ _ _ iv _ _ wr=>∃(k:Nat),iv=Z G k/\k<=m/\Hid (Jf w (Qq node T.pl.ab k) wr)/\Hid (vr (Qq node T.pl.ab k) (1099511627776*(1000*(k:Int))))) (λ_ _ _ _ iv _ _ _=>m-(intOf iv).toNat)
 case atStart=>exact⟨0,rfl,As _,al.out,Hh (by simp[Qq,vr])⟩
 case round=>
  obtain⟨k,rfl,bj,t,aN⟩:=hrel;by_cases hc:k<m
  .have aY:(k:Int)<m:=ao9;have bi:(0:Int)<=(k:Int):=ao9;have hA:=h.low t.low;obtain⟨j,hj⟩:=Ge T.js k (by have:=hm.out;omega);obtain⟨g,a5,_,cj,_,aM⟩:=hA.l7 hj;have e1:so=O ⟨g,0,I⟩:=(by have:=aG.symm.trans aM;injection this);subst e1;have r:=Ai hj;obtain⟨q,aO⟩:=hd j r;obtain⟨b,x⟩:=j;have aL:T.pl.ab[k]?=O x.pl:=(by simp[Tv.pl,hj]);have z:∀W,BW w.heap.size w W->Bj W b x:=λW hW=>(h.low hW).box _ r;have ad:∀W,BW w.heap.size w W->Ca W x:=λW hW=>((h.low hW).ok _ r).parts;have ac:=Ks (ad w (Below.refl _ _));obtain⟨A,aE⟩:=Ex (Qq node T.pl.ab k);have aD:Qq node T.pl.ab (k+1)=K2 node x.pl x.pn A:=(by rw[<-ac,Azx,aE];unfold Qq;rw[On,aL,Mt];rfl);rw[<-aE]at t aN;have aB:=z _ t.low;simp only at cj q aO;have aP:=Bk aB 21 (V x.po x.pn x.pc) rfl;obtain⟨⟨da,db,dc,dd⟩,o⟩:∃d,d=x.pl.sp.df:=⟨_,rfl⟩;rw[<-o]at q;obtain⟨po,aH⟩:=Ex (x.po);obtain⟨pn,s⟩:=Ex (x.pn);rw[<-aH,<-s]at aP;rw[<-s]at aO ac aD;replace⟨hA,hj,aM,r,q,aL,z,ad⟩:=H8 hA hj aM r q aL z ad;replace⟨ac,aE,aD,aB,o,aH,s⟩:=H7 ac aE aD aB o aH s;go_wp2_with fail;clear cj aP;go_loopw [9,10,11,30,48] (λ_ _ _ iv _ wr=>∃(n:Nat),iv=Z G n/\n<=pn/\Hid (Jf w (K2 node x.pl n A) wr)/\Hid (vr (K2 node x.pl n A) (1099511627776*(1000*(k:Int)+n)))) (λ_ _ _ iv _ _=>pn-(intOf iv).toNat)
   case atStart=>exact⟨0,rfl,As _,t.out,Hh (by have:=aN.out;rw[Azv];simpa using this)⟩
   case round=>
    obtain⟨n,rfl,bl,am,aA⟩:=hrel;by_cases aZ:n<pn
    .have a0:(n:Int)<pn:=ao9;have bk:(0:Int)<=(n:Int):=ao9;obtain⟨pb,p,e,hp,c0,c1⟩:=Rd (ad _ am.low) (k:=n) (by rw[<-s.out];exact aZ);have e2:=aH.trans e;subst e2;obtain⟨p1,p2⟩:=p;simp only at c0 c1;have ap:=Azw (i:=node) (v:=A) hp;obtain⟨u,hu⟩:=Ex (K2 node x.pl n A);rw[<-hu]at am aA ap;obtain⟨W3,aF⟩:=Ex (wr.alloc (J #[Z G p1,Z G p2] 65));have aK:BW wr.heap.size wr W3:=(by rw[aF];exact Bn);have an:=am.next aK;have aI:W3.heap[wr.heap.size]?=O (J #[Z G p1,Z G p2] 65 (0,0)):=(by rw[aF];exact Ah _ _);have x0:=Bk aI 0 (Z G p1) rfl;have x1:=Bk aI 1 (Z G p2) rfl;have ao:=z _ an.low;have d4:W3.cell? ⟨b,4,I⟩=O (Z G da):=(by rw[Aa ao 4,show da=x.pl.sp.df.a by rw[<-o.out]];rfl);have d5:W3.cell? ⟨b,5,I⟩=O (Z G db):=(by rw[Aa ao 5,show db=x.pl.sp.df.b by rw[<-o.out]];rfl);have d6:W3.cell? ⟨b,6,I⟩=O (Z G dc):=(by rw[Aa ao 6,show dc=x.pl.sp.df.c by rw[<-o.out]];rfl);have d7:W3.cell? ⟨b,7,I⟩=O (Z G dd):=(by rw[Aa ao 7,show dd=x.pl.sp.df.d by rw[<-o.out]];rfl);replace⟨hp,e,ap,hu,aK,an,aI,ao⟩:=H8 hp e ap hu aK an aI ao;replace am:=Hh am;go_upto_region 10 with fail;rw[<-aF];clear aF c0 c1;obtain⟨a6,a7,a8,a9,ba,bb,bc,bd⟩:=aA.out;obtain⟨aQ,aR,aS,aT,aU,aV,aW,aX⟩:=q.out;simp only at aQ aR aS aT aU aV aW aX;by_cases q1:p1=node
     .by_cases q2:p2=0
      .subst q1;subst q2;have f:K2 p1 x.pl (n+1) A=Rv 4 u ⟨da,db,dc,dd⟩:=(by rw[ap.out,<-o.out,Ad as9];rfl);replace f:=Hh f;go_wp2_with fail;clear x0 x1 d4 d5 d6 d7;go_loopw [10,11,48] (λ_ _ iv wr=>∃(d:Nat),iv=Z G d/\d<=4/\Hid (Jf w (Rv d u ⟨da,db,dc,dd⟩) wr)) (λ_ _ iv _=>4-(intOf iv).toNat)
       case atStart=>exact⟨0,rfl,ao9,an.out⟩
       case round=>
        obtain⟨d,rfl,bg,l⟩:=hrel;by_cases bf:d<4
        .rcases (by omega:d=0\/d=1\/d=2\/d=3)with rfl|rfl|rfl|rfl
         .have u0:=Bk l.vec 0 (Z G u.a) rfl;have fr:=Ag l.vec;have y:Jf w (Rv 1 u ⟨da,db,dc,dd⟩) (wr.setCell ⟨w.heap.size+1,0,I⟩ (Z G (u.a+da))):=l.set 0 _ rfl;replace y:=Hh y;go_wp2_with (refine Zq rfl _ _ _ rfl _ (zz _ _ _ _ _) ?_);go_roundw
          case rel=>exact⟨1,rfl,ao9,y⟩
          case measure=>simp[intOf]
         .have u1:=Bk l.vec 1 (Z G u.b) rfl;have fr:=Ag l.vec;have y:Jf w (Rv 2 u ⟨da,db,dc,dd⟩) (wr.setCell ⟨w.heap.size+1,1,I⟩ (Z G (u.b+db))):=l.set 1 _ rfl;replace y:=Hh y;go_wp2_with (refine Zq rfl _ _ _ rfl _ (ix1 _ _ _ _ _) ?_);go_roundw
          case rel=>exact⟨2,rfl,ao9,y⟩
          case measure=>simp[intOf]
         .have u2:=Bk l.vec 2 (Z G u.c) rfl;have fr:=Ag l.vec;have y:Jf w (Rv 3 u ⟨da,db,dc,dd⟩) (wr.setCell ⟨w.heap.size+1,2,I⟩ (Z G (u.c+dc))):=l.set 2 _ rfl;replace y:=Hh y;go_wp2_with (refine Zq rfl _ _ _ rfl _ (ix2 _ _ _ _ _) ?_);go_roundw
          case rel=>exact⟨3,rfl,ao9,y⟩
          case measure=>simp[intOf]
         .have u3:=Bk l.vec 3 (Z G u.d) rfl;have fr:=Ag l.vec;have y:Jf w (Rv 4 u ⟨da,db,dc,dd⟩) (wr.setCell ⟨w.heap.size+1,3,I⟩ (Z G (u.d+dd))):=l.set 3 _ rfl;replace y:=Hh y;go_wp2_with (refine Zq rfl _ _ _ rfl _ (ix3 _ _ _ _ _) ?_);go_roundw
          case rel=>exact⟨4,rfl,ao9,y⟩
          case measure=>simp[intOf]
        .have a1:d=4:=ao9;subst a1;go_wp2;go_roundw
         case rel=>exact⟨n+1,by go_num,ao9,Hh (by rw[f.out];exact l.out),Hh (by rw[f.out];refine⟨?_,?_,?_,?_,?_,?_,?_,?_⟩<;>simp[Rv]<;>omega)⟩
         case measure=>simp[intOf];omega
      .clear d4 d5 d6 d7;have f:K2 node x.pl (n+1) A=u:=(by rw[ap.out,Ac (by simp;omega)]);replace f:=Hh f;go_wp2;go_roundw
       case rel=>exact⟨n+1,by go_num,ao9,Hh (by rw[f.out];exact an.out),Hh (by rw[f.out];refine⟨?_,?_,?_,?_,?_,?_,?_,?_⟩<;>omega)⟩
       case measure=>simp[intOf];omega
     .clear d4 d5 d6 d7;have f:K2 node x.pl (n+1) A=u:=(by rw[ap.out,Ac (by simp;omega)]);replace f:=Hh f;go_wp2;go_roundw
      case rel=>exact⟨n+1,by go_num,ao9,Hh (by rw[f.out];exact an.out),Hh (by rw[f.out];refine⟨?_,?_,?_,?_,?_,?_,?_,?_⟩<;>omega)⟩
      case measure=>simp[intOf];omega
    .have a0:¬(n:Int)<pn:=ao9;have a4:n=pn:=ao9;subst a4;go_wp2;go_roundw
     case rel=>exact⟨k+1,by go_num,ao9,Hh (by rw[aD.out];exact am.out),Hh (by rw[aD.out];obtain⟨b1,b2,b3,b4,b5,b6,b7,b8⟩:=aA.out;refine⟨b1,?_,b3,?_,b5,?_,b7,?_⟩<;>omega)⟩
     case measure=>simp[intOf];omega
  .have aY:¬(k:Int)<m:=ao9;have a3:k=m:=ao9;subst a3;obtain⟨u,hu⟩:=Ex (Qq node T.pl.ab k);have aC:u=Up T.pl.ab node:=(by rw[hu];unfold Qq Up;rw[C4 (by simp[Tv.pl];have:=hm.out;omega)]);rw[<-hu]at t;have u0:=Bk t.vec 0 (Z G u.a) rfl;have u1:=Bk t.vec 1 (Z G u.b) rfl;have u2:=Bk t.vec 2 (Z G u.c) rfl;have u3:=Bk t.vec 3 (Z G u.d) rfl;have r0:=Bk t.res 0 (Z G 0) rfl;have r1:=Bk t.res 1 (Z G 0) rfl;have r2:=Bk t.res 2 (Z G 0) rfl;have r3:=Bk t.res 3 (Z G 0) rfl;have fr:=Ag t.res;replace⟨hu,aC⟩:=H2 hu aC;go_wp2;refine Al (v:=u.val) (by simp[results,results17,go_sem,r0,r1,r2,r3]) rfl ⟨by rw[aC.out],?_⟩;exact E1 (E1 (E1 (E1 t.low Ln) Ln) Ln) Ln
def mg:E6:=⟨false,false,-1⟩
structure K3 (w:WD) (fb:Nat) (vs:List ar) (kn kc:Nat) (cv nv:VL) (wr:WD):Prop where
 low:BW w.heap.size w wr
 head:wr.heap[w.heap.size]?=O (J #[Z G 0,Z G (-1),.map (O (w.heap.size+1)),nv,V I 0 0,K (O ⟨fb,0,I⟩),cv] 115 (0,0))
 map:wr.heap[w.heap.size+1]?=O (.map #[] 0)
 nodes:wr.ownsRow (w.heap.size+2) 119 3 nv kn (Aw Ez (List.replicate kn mg))
 az:wr.ownsRow (w.heap.size+2) 30 4 cv kc (Aw V4.cells ((vs.take kc).map ar.cap))
def Oh {w:WD} {B size n b:Nat} {T:TypeId} {v:VL} {xs:List VL} (h:w.ownsRow B T size v n xs) (a:v.ownBlock=O b):B<=b:=(C7 h a).choose_spec.2
variable {w wr w2 w9:WD} {fb k:Nat} {vs:List ar} {cv nv v9:VL} {v:ar}
def K3.next {d b:Nat} (h:K3 w fb vs d b cv nv wr) (a:BW wr.heap.size wr w2):K3 w fb vs d b cv nv w2:=
 ⟨h.low.trans (a.mono h.low.size),Ae a h.head (Ab h.head),Ae a h.map (Ab h.map),
  Bd (S:=λ_=>False) h.nodes ((Mod.af a).mono λ_ _ c=>c) λ_ _ c=>c,Bd (S:=λ_=>False) h.az ((Mod.af a).mono λ_ _ c=>c) λ_ _ c=>c⟩
def K3.cap (h:K3 w fb vs k k cv nv wr) (q:vs[k]?=O v) (a:w9.ownsRow (w.heap.size+2) 30 4 v9 (k+1) (Aw V4.cells ((vs.take k).map ar.cap)++v.cap.cells.toList))
  (n:wr.grownBy w9 cv.ownBlock):K3 w fb vs k (k+1) v9 nv (w9.setCell ⟨w.heap.size,6,I⟩ v9):=by
 have f:=Mod.grown n λ_ e=>e;have d:∀b,cv.ownBlock=O b->w.heap.size+2<=b:=λb e=>Oh h.az e
 have o:=f.au h.head λe=>by have:=d _ e;omega
 have p:=f.au h.map λe=>by have:=d _ e;omega
 have i:=Bd h.nodes f λb e c=>by
  obtain⟨j,m,_⟩:=C7 h.az c;exact Bv h.nodes m ad9 e
 have g:Mod (λb=>b=w.heap.size) w9 (w9.setCell ⟨w.heap.size,6,I⟩ v9):=Mod.setCell _ _ _ _ rfl;refine⟨E1 (h.low.trans (f.below h.low.size λb e=>by have:=d b e;omega)) Ln,Ap o 6 v9,g.au p ao9,Bd i g λb e c=>?_,?_⟩
 .have:=Oh i e;omega
 .have l:=Bd a g λb e c=>by have:=Oh a e;omega
  rw[On,q,Dk,Ox];simpa[Aw]using l
def K3.node (h:K3 w fb vs k (k+1) cv nv wr) (a:w9.ownsRow (w.heap.size+2) 119 3 v9 (k+1) (Aw Ez (List.replicate k mg)++(Ez mg).toList))
  (n:wr.grownBy w9 nv.ownBlock):K3 w fb vs (k+1) (k+1) cv v9 (w9.setCell ⟨w.heap.size,3,I⟩ v9):=by
 have f:=Mod.grown n λ_ e=>e;have d:∀b,nv.ownBlock=O b->w.heap.size+2<=b:=λb e=>Oh h.nodes e
 have o:=f.au h.head λe=>by have:=d _ e;omega
 have p:=f.au h.map λe=>by have:=d _ e;omega
 have i:=Bd h.az f λb e c=>by
  obtain⟨j,m,_⟩:=C7 h.nodes c;exact Bv h.az m ad9 e
 have g:Mod (λb=>b=w.heap.size) w9 (w9.setCell ⟨w.heap.size,3,I⟩ v9):=Mod.setCell _ _ _ _ rfl;refine⟨E1 (h.low.trans (f.below h.low.size λb e=>by have:=d b e;omega)) Ln,Ap o 3 v9,g.au p ao9,?_,Bd i g λb e c=>?_⟩
 .have l:=Bd a g λb e c=>by have:=Oh a e;omega
  rw[List.replicate_succ',Ox];simpa[Aw]using l
 .have:=Oh i e;omega
structure Azz (w:WD) (fb:Nat) (vs:List ar) (k:Nat) (nv:VL) (wx:WD):Prop where
 ex:∃cv,K3 w fb vs k (k+1) cv nv wx
def Az0:(prog.info? 30).map (λi=>(i.zero,i.size,i.bytes))=O (O V4.zero.val,4,32):=by kernel_rfl
def Az1:(prog.info? 119).map (λi=>(i.zero,i.size,i.bytes))=O (O (.agg #[Q false,Q false,Z G 0]),3,16):=by kernel_rfl
def Alw {W:WD} {cs:Array VL} {T:TypeId}:∀j u,cs.toList[j]?=O u->((W.alloc (J cs T)).drew).cell? ((⟨W.heap.size,0,I⟩:Addr).add j)=O u:=λi u a=>by
 rw[show((⟨W.heap.size,0,I⟩:Addr).add i)=⟨W.heap.size,i,I⟩ by unfold Addr.add;split<;>simp_all,Aa (w:=(W.alloc (J cs T)).drew) (Ah W (J cs T)) i,<-a];simp
def Az2 {w:WD} {b:Nat} (h:w.heap[b]?=O (.map #[] 0)):M3 w b []:=by
 obtain⟨d,c,a,rest⟩:=Aat (H:=Unit) w prog 3 P3;rw[Ah]at a;injection a with a;injection a with e1 e2;subst e1;subst e2;exact⟨#[],0,h,rest⟩
def Acr (w:WD) (fb fm fl:Nat) (vs:List ar) (e:Ending) (w':WD):Prop:=
 ∃T:Tv,e=Y (K (O ⟨T.tb,0,I⟩))/\Ao w' T/\BW w.heap.size w w'/\(∀b,T.ax b->w.heap.size<=b)/\T.fb=fb/\T.fm=fm/\T.fl=fl/\T.vs=vs/\T.pl=⟨0,-1,[],List.replicate vs.length mg,[]⟩
def Acs {w:WD} {fb fm fl:Nat} {vs:List ar} (hf:lu w fb fm fl vs) (aA:Jr vs):CS prog 14 #[K (O ⟨fb,0,I⟩)] w (Acr w fb fm fl vs):=by
 have aH:=λ(W:WD) (hW:BW w.heap.size w W)=>Agp (hf.below hW);have aQ:=λ(W:WD) (hW:BW w.heap.size w W) (i:Int)=>Agv (hf.below hW) aA i;obtain⟨m,hm⟩:=Ex (vs.length);have a0:=@run_makeMap prog;rw[<-hm]at aH;have a4:m<=16:=by rw[hm];exact aA.len
 replace⟨hf,aA,aH,aQ,hm⟩:=H5 hf aA aH aQ hm;go_enter func14,ntmps14;go_upto_region 6 with fail;obtain⟨W0,aK⟩:=Ex ((w.alloc (J #[Z G 0,Z G (-1),.map (O (w.heap.size+1)),V I 0 0,V I 0 0,K (O ⟨fb,0,I⟩),V I 0 0] 115)).alloc (.map #[] 0));have aD:K3 w fb vs 0 0 (V I 0 0) (V I 0 0) W0:=by rw[aK];exact⟨Bn.alloc as9 _,Aj _ (Ah _ _),A6 _ _ as9,Mr _ _ _ _,Mr _ _ _ _⟩
 rw[<-aK];clear aK a0;replace aD:=Hh aD;go_wp2_with fail;refine(aH _ aD.low).mono ?_;rintro e w1 ⟨rfl,rfl⟩;go_wp2_with fail;go_loopw [4,5,6,23] (λ_ _ _ iv wr=>∃(k:Nat) (cv nv:VL),iv=Z G k/\k<=m/\Hid (K3 w fb vs k k cv nv wr)) (λ_ _ _ iv _=>m-(intOf iv).toNat)
 case atStart=>exact⟨0,_,_,rfl,As _,aD⟩
 case round=>
  obtain⟨k,cv,nv,rfl,a6,hN⟩:=hrel;by_cases hc:k<m
  .have aY:(k:Int)<m:=ao9;have aR:=aQ _ hN.low (k:Int);replace aR:=Hh aR;go_wp2_with fail;refine aR.mono ?_;rintro e w2 ⟨x,bb,rfl,hx,aL,_,av⟩
   have hv:vs[k]?=O x.pl:=by
    rcases av with⟨_,_,h⟩|⟨_,_,h⟩
    .simpa using h
    .have:=hm.out;omega
   clear av;replace⟨hx,aL,hv⟩:=H3 hx aL hv;go_upto_region 10 with fail;obtain⟨W3,aF⟩:=Ex (w2.alloc (J x.cells 69));have aM:BW w2.heap.size w2 W3:=(by rw[aF];exact Bn);have an:=(hN.next aL.out).next aM;have al:W3.heap[w2.heap.size]?=O (J x.cells 69 (0,0)):=(by rw[aF];exact Ah _ _);have f6:=Bk an.head 6 cv rfl;have f3:=Bk an.head 3 nv rfl;have y1:=Bk al 1 (Z G x.cap.a) rfl;have y2:=Bk al 2 (Z G x.cap.b) rfl;have y3:=Bk al 3 (Z G x.cap.c) rfl;have y4:=Bk al 4 (Z G x.cap.d) rfl;obtain⟨bx,aN⟩:=Ex (w2.heap.size);have a7:=Ab an.head;rw[<-aF];rw[<-aN]at al y1 y2 y3 y4 ⊢;have r:K3 w fb vs k k cv nv ((W3.alloc (J x.cap.cells 30)).drew):=(an.next Bn).next ⟨rfl,rfl,rfl,Nat.le_refl _,λ_ _=>rfl⟩;have ad:=r.az;have y:=Alw (W:=W3) (cs:=x.cap.cells) (T:=30)
   have aB:∀u∈x.cap.cells.toList,u.oneCell'=true:=by intro u hu;simp at hu;rcases hu with rfl|rfl|rfl|rfl<;>rfl
   have aC:=If (n:=k) ao9;have aO:(k+1)*32<=140737488355328:=ao9;have ao:w.heap.size+2<=((W3.alloc (J x.cap.cells 30)).drew).heap.size:=Ab r.map
   have t:∀w9:WD,((W3.alloc (J x.cap.cells 30)).drew).grownBy w9 cv.ownBlock->w9.heap[w.heap.size]?=O (J #[Z G 0,Z G (-1),.map (O (w.heap.size+1)),nv,V I 0 0,K (O ⟨fb,0,I⟩),cv] 115 (0,0)):=λw9 hg=>
    (hg.block _ (Ab r.head) (λe=>by have:=Oh r.az e.symm;omega)).trans r.head
   obtain⟨a1,aU,aV,aS,aT⟩:=Cf Az0;replace⟨aM,an,al,r,ad,y,aB,aC⟩:=H8 aM an al r ad y aB aC;replace⟨aO,ao,t,aN⟩:=H4 aO ao t aN;clear aF;go_cut [] (λwx=>Azz w fb vs k nv wx)
   case first=>
    go_region_law
     (first
       | (refine Uo (by rfl) _ _ _ (by rfl) (w.heap.size+2) 30 a1 _ 4 32 underlying113 aU aV aS aT rfl ad9 cv k _ (by rfl) ad.out ⟨W3.heap.size,0,I⟩ 1 x.cap.cells.toList (by rfl) (by rfl) y.out aB.out aC.out aO.out ao.out ?_;intro g9 a3 w9 g f;have q9:=t w9 f;have f9:=Aa q9 6;have z9:=Ag q9 6;simp at f9
          replace⟨q9,g,f⟩:=H3 q9 g f))
    all_goals
     go_wp2_with fail;go_meet;exact⟨_,r.cap hv.out g.out f.out⟩
   case rest=>
    obtain⟨aX,aE⟩:=hcut.ex;clear hcut f6 f3 y1 y2 y3 y4;have f3:=Bk aE.head 3 nv rfl;have q:K3 w fb vs k (k+1) aX nv (wc.alloc (J #[Q false,Q false,Z G (-1)] 119)):=aE.next Bn;have ac:=q.nodes;have l:∀j u,(Ez mg).toList[j]?=O u->(wc.alloc (J #[Q false,Q false,Z G (-1)] 119)).cell? ((⟨wc.heap.size,0,I⟩:Addr).add j)=O u:=Alw (W:=wc) (cs:=Ez mg) (T:=119)
    have z:∀u∈(Ez mg).toList,u.oneCell'=true:=by intro u hu;simp at hu;rcases hu with rfl|rfl|rfl<;>rfl
    have ap:(k+1)*16<=140737488355328:=ao9;have s:w.heap.size+2<=(wc.alloc (J #[Q false,Q false,Z G (-1)] 119)).heap.size:=Ab q.map;obtain⟨aW,v,am,o,p⟩:=Cf Az1;replace⟨aE,q,ac,l,z,ap,s,v⟩:=H8 aE q ac l z ap s v;replace⟨am,o,p⟩:=H3 am o p;go_wp2_with (at_builtin;refine Ms _ rfl _ _ 109 rfl (w.heap.size+2) 119 aW _ 3 16 underlying109 v.out am.out o.out p.out rfl ad9 _ k _ rfl ac.out ⟨wc.heap.size,0,I⟩ 1 1 (Ez mg).toList rfl rfl l.out z.out aC.out ap.out s.out ?c6)
    case c6=>
     intro v' w9 g f aI;obtain⟨g5,a2,rfl⟩:=Joins.ownsRow_form g ao9
     have aG:=
      (f.block _ (Ab q.head) (λe=>by have:=Oh q.nodes e.symm;omega)).trans q.head
     have z9:=Bk aG 3 nv rfl;have a5:=Ag aG;have aJ:=q.node g f;clear f3;replace⟨g,f,aI,aG,aJ⟩:=H5 g f aI aG aJ;go_wp2;go_roundw
     case rel=>exact⟨k+1,_,_,by go_num,ao9,aJ⟩
     case measure=>simp[intOf];omega
  .have aY:¬(k:Int)<m:=ao9;have aZ:k=m:=ao9;subst aZ;go_wp2;go_ret;have hN:=hN.out;have aP:=hm.out;refine⟨⟨w.heap.size,w.heap.size+1,nv,V I 0 0,fb,fm,fl,cv,0,-1,[],List.replicate k mg,[],vs⟩,rfl,⟨hN.head,?_,?_,Mr _ _ _ _,?_,λj hj=>by simp at hj,λj hj=>by simp at hj,as9,as9,?_,by simp[aP]⟩,hN.low,?_,rfl,rfl,rfl,rfl,by rw[<-aP];rfl⟩
   .exact Az2 hN.map
   .have:=Zn (B':=0) hN.nodes (As _);simpa using this
   .have:=Zn (B':=0) hN.az (As _);rw[C4 ao9]at this;rw[aP]at this;exact this
   .refine ⟨⟨w,hf.out,hN.low,λb hb=>?_⟩,aA.out⟩;rcases hb with e|e|e|e|⟨j,hj,_⟩
    .have:b=w.heap.size:=e;omega
    .have:b=w.heap.size+1:=e;omega
    .have:=Oh hN.nodes e;omega
    .simp [Value.ownBlock]at e
    .simp at hj
   .intro b hb;rcases hb with e|e|e|e|⟨j,hj,_⟩
    .have:b=w.heap.size:=e;omega
    .have:b=w.heap.size+1:=e;omega
    .have:=Oh hN.nodes e;omega
    .simp [Value.ownBlock]at e
    .simp at hj
end
section
open Go.RowKit Go.Maps Go.Lib
variable{T:Tv}{u v:V4}{w w' w1 wr:WD}{b:gd}
def Jw (w:WD) (r:Int) (e:Ending) (w':WD):Prop:=e=Y (Z G r)/\BW w.heap.size w w'
def Alx   (x:de) (h:Ao w T) (hn:0<=x.n.node) (hk:x.n.kind=8\/x.n.kind=9\/x.n.kind=10\/x.n.kind=11) :
  CS prog 59 #[K (O ⟨T.tb,0,I⟩),x.val] w (Jw w (Li T.pl x.n)):=by
 obtain⟨W0,s⟩:=Ex (w.alloc (J x.cells 40 (0,0)));have b0:BW w.heap.size w W0:=by rw[s];exact Bn
 have u:=h.low b0;have p:W0.heap[w.heap.size]?=O (J x.cells 40 (0,0)):=by rw[s];exact Ah _ _
 have aF:=Ab p;have av:=Ab u.head
 obtain⟨so,cap,ac,c3,al⟩:∃so cap,T.nv=V so T.nodes.length cap/\W0.cell? ⟨T.tb,3,I⟩=O (V so T.nodes.length cap)/\T.nodes.length<=9223372036854775807:=by
  rcases u.nodes.2 with⟨e,h0⟩|⟨g,cap,aL,e,_,_,h1,h2,_⟩
  .exact ⟨I,0,by rw[e,h0],by rw[Aa u.head 3,h0,<-e];rfl,ao9⟩
  .exact ⟨_,_,e,by rw[Aa u.head 3,<-e];rfl,by unfold maxLen at h2;omega⟩
 have c1:=Bk u.head 1 (Z G T.tick) rfl;obtain⟨tb,ht⟩:=Ex (T.tb);obtain⟨m,hm⟩:=Ex (T.nodes.length);obtain⟨r,hr⟩:=Ex (Li T.pl x.n);obtain⟨tk,t⟩:=Ex (T.tick);rw[<-hr,<-ht];rw[<-ht,<-hm]at c3;rw[<-ht,<-t]at c1;rw[<-ht]at av
 have a:r=if (m:Int)<=x.n.node then 142
   else if x.n.kind=8\/x.n.kind=9 then(if x.n.tick<tk then 141 else if (Re T.nodes x.n.node).up≠decide (x.n.kind=8)then 100 else 0)
   else if x.n.kind=10\/x.n.kind=11 then(if (Re T.nodes x.n.node).bt≠decide (x.n.kind=11)then 100 else 0)else 0:=by rw[hr,hm,t];rfl
 obtain⟨⟨kd,ep,et,cl,sq,jn,an,nn,hw⟩,aN,sn,sc,dj⟩:=x;simp only at hn hk a;have e0:=Bk p 0 (Z G kd) rfl;have e2:=Bk p 2 (Z G et) rfl;have e7:=Bk p 7 (Z G nn) rfl;by_cases q:(m:Int)<=nn
 .rw [Ad q]at a;subst a;replace⟨h,u,p,ac,ht,hm,hr,t⟩:=H8 h u p ac ht hm hr t;replace⟨hk,b0,al⟩:=H3 hk b0 al;go_enter func59,ntmps59;go_upto_region 1 with fail;rw[<-s];clear s;go_quiet (fail);rename_i nq;have l:=b0.trans ((A4 _ W0 nq).mono b0.size);replace l:=Hh l;go_wp2;go_ret;exact⟨rfl,l.out⟩
 .rw [Ac q]at a;obtain⟨k,rfl⟩:∃k:Nat,nn=(k:Int):=⟨nn.toNat,ao9⟩;have aM:(k:Int)<m:=ao9
  obtain⟨g,aK,o,ao,_⟩:=u.zg ao9;have e1:so=O ⟨g,0,I⟩:=by have:=ac.symm.trans o;injection this
  subst e1;obtain⟨nd,ad⟩:=Ge T.nodes k ao9;obtain⟨n0,n1,n2,_⟩:=u.ry ad o;have ap:Re T.nodes (k:Int)=nd:=by unfold Re;rw[K7,ad];rfl
  rw[ap]at a;obtain⟨up,dr,si⟩:=nd;simp only at a n0 n1 n2;clear ao;have aD:g<W0.heap.size:=by obtain⟨_,hc,_⟩:=C7 u.nodes (g:=g) (by rw[o];rfl);exact Ab hc
  replace⟨h,u,p,ac,ht,hm,hr,t⟩:=H8 h u p ac ht hm hr t;replace⟨b0,o,ad,ap⟩:=H4 b0 o ad ap;go_enter func59,ntmps59;go_upto_region 1 with fail;rw[<-s];clear s;go_quiet (fail);rename_i nq;go_upto_region 3 with fail;obtain⟨d,c⟩:=Ex (W0.drewN nq);have aB:d.cell? ⟨w.heap.size,0,I⟩=O (Z G kd):=by rw[c];exact e0
  have aC:d.cell? ⟨w.heap.size,2,I⟩=O (Z G et):=by rw[c];exact e2
  have aG:d.cell? ⟨w.heap.size,7,I⟩=O (Z G k):=by rw[c];exact e7
  have aA:d.cell? ⟨tb,1,I⟩=O (Z G tk):=by rw[c];exact c1
  have ao:d.cell? ⟨tb,3,I⟩=O (V (O ⟨g,0,I⟩) m cap):=by rw[c];exact c3
  have aH:d.cell? ⟨g,k*3,I⟩=O (Q up):=by rw[c];exact n0
  have aI:d.cell? ⟨g,k*3+1,I⟩=O (Q dr):=by rw[c];exact n1
  have aJ:d.cell? ⟨g,k*3+2,I⟩=O (Z G si):=by rw[c];exact n2
  have z:w.heap.size<d.heap.size:=by rw[c];exact aF
  have am:tb<d.heap.size:=by rw[c];exact av
  have aE:g<d.heap.size:=by rw[c];exact aD
  have l:BW w.heap.size w d:=by rw[c];exact b0.trans ((A4 _ W0 nq).mono b0.size)
  rw[<-c];replace l:=Hh l;clear c e0 e2 e7 c1 c3 n0 n1 n2 aF av aD;go_region;obtain⟨W3,v⟩:=Ex ((d.alloc (J #[Q up,Q dr,Z G si] 119)).drew);have f:BW d.heap.size d W3:=by rw[v];exact Bn.trans ⟨rfl,rfl,rfl,Nat.le_refl _,λ_ _=>rfl⟩
  have y:=l.trans (f.mono l.size);have e0:=(By (w:=d) (f.block _ z)).trans aB;have e2:=(By (w:=d) (f.block _ z)).trans aC;have c1:=(By (w:=d) (f.block _ am)).trans aA;have x0:W3.cell? ⟨d.heap.size,0,I⟩=O (Q up):=by rw[v];exact Aa (w:=(d.alloc (J #[Q up,Q dr,Z G si] 119)).drew) (Ah d _) 0
  have x1:W3.cell? ⟨d.heap.size,1,I⟩=O (Q dr):=by rw[v];exact Aa (w:=(d.alloc (J #[Q up,Q dr,Z G si] 119)).drew) (Ah d _) 1
  rw[<-v];replace⟨f,y⟩:=H2 f y;clear v aB aC aG aA ao aH aI aJ z am aE;have i:=λn=>y.trans ((A4 _ W3 n).mono y.size);have j:=y.out;replace⟨i,j⟩:=H2 i j;rcases hk with rfl|rfl|rfl|rfl
  .by_cases qt:et<tk
   .have b:r=141:=(by rw[a];simp[qt]);replace a:=Hh a;subst b;go_wp2;go_quiet (fail);go_wp2;go_ret;exact⟨rfl,i _⟩
   .cases up
    all_goals
     have b:r=_:=a;simp[qt]at b;replace a:=Hh a;subst b;go_wp2;go_quiet (fail);go_wp2;go_ret;exact⟨rfl,i _⟩
  .by_cases qt:et<tk
   .have b:r=141:=(by rw[a];simp[qt]);replace a:=Hh a;subst b;go_wp2;go_quiet (fail);go_wp2;go_ret;exact⟨rfl,i _⟩
   .cases up
    all_goals
     have b:r=_:=a;simp[qt]at b;replace a:=Hh a;subst b;go_wp2;go_quiet (fail);go_wp2;go_ret;exact⟨rfl,i _⟩
  .cases dr
   all_goals
    have b:r=_:=a;simp at b;replace a:=Hh a;subst b;go_wp2;go_ret;exact⟨rfl,j.out⟩
  .cases dr
   all_goals
    have b:r=_:=a;simp at b;replace a:=Hh a;subst b;go_wp2;go_ret;exact⟨rfl,j.out⟩
def S8 {B:Nat}  (h:BW B w w'):(∀k o,k<B->w'.cell? ⟨k,o,I⟩=w.cell? ⟨k,o,I⟩)/\(∀k o,k<B->w'.frozen? ⟨k,o,I⟩=w.frozen? ⟨k,o,I⟩):=
 ⟨λk o a=>By (h.block k a),λk o a=>by simp only[World.frozen?,h.block k a]⟩
def Aly   (x:de) (h:Ao w T) (hn:1<=x.n.br) :
  CS prog 60 #[K (O ⟨T.tb,0,I⟩),x.val] w (Jw w (J7 T.pl x.n)):=by
 obtain⟨a,s⟩:=Ex (w.alloc (J x.cells 40 (0,0)));have l:BW w.heap.size w a:=by rw[s];exact Bn
 have hA:=h.low l;have f:a.heap[w.heap.size]?=O (J x.cells 40 (0,0)):=by rw[s];exact Ah _ _
 have aH:=Ab f
 obtain⟨so,cap,t,c4,am⟩:∃so cap,T.jv=V so T.js.length cap/\a.cell? ⟨T.tb,4,I⟩=O (V so T.js.length cap)/\T.js.length<=9223372036854775807:=by
  rcases hA.ab.2 with⟨e,h0⟩|⟨g,cap,aU,e,_,_,h1,h2,_⟩
  .exact ⟨I,0,by rw[e,h0],by rw[Aa hA.head 4,h0,<-e];rfl,ao9⟩
  .exact ⟨_,_,e,by rw[Aa hA.head 4,<-e];rfl,by unfold maxLen at h2;omega⟩
 obtain⟨tb,ht⟩:=Ex (T.tb);obtain⟨m,hm⟩:=Ex (T.js.length);obtain⟨r,hr⟩:=Ex (J7 T.pl x.n);rw[<-hr,<-ht];rw[<-ht,<-hm]at c4;rw[<-hm]at am t;have c:r=if (m:Int)<x.n.br then 90 else if x.n.kind≠7 then(Ay (Fe T.pl.ab x.n.br).lf (Fv x.n.kind)).2 else if Gl (Fe T.pl.ab x.n.br) x.n.attempt x.n.node=I then 100 else 0:=by rw[hr,hm];unfold J7;simp[Tv.pl]
 obtain⟨⟨kd,ep,et,cl,sq,jn,an,nn,hw⟩,aY,sn,sc,dj⟩:=x;simp only at hn c;have e0:=Bk f 0 (Z G kd) rfl;have e5:=Bk f 5 (Z G jn) rfl;have e6:=Bk f 6 (Z G an) rfl;have e7:=Bk f 7 (Z G nn) rfl;by_cases q:(m:Int)<jn
 .rw [Ad q]at c;subst c;replace⟨h,hA,f,t,ht,hm,hr,l⟩:=H8 h hA f t ht hm hr l;replace am:=Hh am;go_enter func60,ntmps60;go_upto_region 1 with fail;rw[<-s];clear s;go_quiet (fail);rename_i nq;have av:=l.trans ((A4 _ a nq).mono l.size);replace av:=Hh av;go_wp2;go_ret;exact⟨rfl,av.out⟩
 .rw [Ac q]at c;obtain⟨k,rfl⟩:∃k:Nat,jn=(k:Int)+1:=⟨(jn-1).toNat,ao9⟩;have aW:(k:Int)<m:=ao9
  have aV:(0:Int)<=(k:Int):=ao9
  obtain⟨j,hj⟩:=Ge T.js k ao9;obtain⟨g,aO,_,cj,_,u⟩:=hA.l7 hj;have e1:so=O ⟨g,0,I⟩:=by have:=t.symm.trans u;injection this
  subst e1;obtain⟨b,z⟩:=j;have i:=Ai hj;have al:Fe T.pl.ab ((k:Int)+1)=z.pl:=by unfold Fe;rw[show((k:Int)+1-1).toNat=k by omega];simp[Tv.pl,hj]
  rw[al]at c;simp only at cj;have d:=hA.box _ i;have ao:=(hA.ok _ i).parts;have kp:∀W,BW a.heap.size a W->CS prog 102 #[K (O ⟨b,0,I⟩),Z G an,Z G nn] W (Ah6 z an nn W):=λW hW=>Ah7 (Ae hW d (Ab d)) (Ca.low ao hW) an nn;by_cases q7:kd=7
  .subst q7;rw[Ac as9]at c;replace⟨h,hA,f,t,ht,hm,hr,l⟩:=H8 h hA f t ht hm hr l;replace⟨u,hj,i,al,d,ao,kp,c⟩:=H8 u hj i al d ao kp c;go_enter func60,ntmps60;go_upto_region 1 with fail;rw[<-s];clear s;go_quiet (fail);rename_i nq;go_upto_region 3 with fail;go_quiet (fail);rename_i aI;go_wp2_with fail;refine(kp _ (A4 _ a _)).mono ?_;rintro e w1 ⟨rfl,hq⟩;have ac:=λn=>l.trans ((A4 _ a n).mono l.size);rcases hq with⟨aB,rfl⟩|⟨k2,pb,aE,_,_,rfl⟩
   .have aC:r=100:=(by rw[c.out,Ad aB]);replace⟨ac,aB⟩:=H2 ac aB;subst aC;go_wp2;go_ret;exact⟨rfl,ac _⟩
   .have aC:r=0:=(by rw[c.out,Ac (by rw[aE];simp)]);replace⟨ac,aE⟩:=H2 ac aE;subst aC;go_wp2;go_ret;exact⟨rfl,ac _⟩
  .rw [Ad q7]at c;have aJ:=Bk d 14 (Z G z.pl.lf.st) rfl;have aK:=Bk d 15 (Z G z.pl.lf.bh) rfl;have aL:=Bk d 16 (Z G z.pl.lf.left) rfl;have aM:=Bk d 17 (Q z.pl.lf.wall) rfl;have aN:=Bk d 18 (Q z.pl.lf.stop) rfl
   have ap:1<=Fv kd/\Fv kd<=8:=by unfold Fv;split<;>(try split)<;>omega
   have ks:=λW=>Ah5 kd W;obtain⟨sg,aD⟩:=Ex (Fv kd);rw[<-aD]at ks ap c;have kx:=λW=>Ahp z.pl.lf sg W ap;obtain⟨⟨l1,r1⟩,aA⟩:∃p,p=Ay z.pl.lf sg:=⟨_,rfl⟩;rw[<-aA]at kx c;simp only at kx c;subst c;replace⟨h,hA,f,t,ht,hm,hr,l⟩:=H8 h hA f t ht hm hr l;replace⟨u,hj,i,al,d,ao,kp,ap⟩:=H8 u hj i al d ao kp ap;replace⟨aD,aA,ks,kx⟩:=H4 aD aA ks kx;go_enter func60,ntmps60;go_upto_region 1 with fail;rw[<-s];clear s;go_quiet (fail);rename_i nq;go_upto_region 3 with fail;go_quiet (fail);rename_i aI;have aZ:∀n,((a.drewN n).alloc (J #[Z G 0,Z G 0,Z G 0,Q false,Q false] 43)).cell? ⟨a.heap.size,0,I⟩=O (Z G 0):=λn=>Aa (w:=(a.drewN n).alloc (J #[Z G 0,Z G 0,Z G 0,Q false,Q false] 43)) (Ah (a.drewN n) _) 0;have a0:∀n,((a.drewN n).alloc (J #[Z G 0,Z G 0,Z G 0,Q false,Q false] 43)).cell? ⟨a.heap.size,1,I⟩=O (Z G 0):=λn=>Aa (w:=(a.drewN n).alloc (J #[Z G 0,Z G 0,Z G 0,Q false,Q false] 43)) (Ah (a.drewN n) _) 1;have a1:∀n,((a.drewN n).alloc (J #[Z G 0,Z G 0,Z G 0,Q false,Q false] 43)).cell? ⟨a.heap.size,2,I⟩=O (Z G 0):=λn=>Aa (w:=(a.drewN n).alloc (J #[Z G 0,Z G 0,Z G 0,Q false,Q false] 43)) (Ah (a.drewN n) _) 2;have a2:∀n,((a.drewN n).alloc (J #[Z G 0,Z G 0,Z G 0,Q false,Q false] 43)).cell? ⟨a.heap.size,3,I⟩=O (Q false):=λn=>Aa (w:=(a.drewN n).alloc (J #[Z G 0,Z G 0,Z G 0,Q false,Q false] 43)) (Ah (a.drewN n) _) 3;have a3:∀n,((a.drewN n).alloc (J #[Z G 0,Z G 0,Z G 0,Q false,Q false] 43)).cell? ⟨a.heap.size,4,I⟩=O (Q false):=λn=>Aa (w:=(a.drewN n).alloc (J #[Z G 0,Z G 0,Z G 0,Q false,Q false] 43)) (Ah (a.drewN n) _) 4;have zf:∀n o,((a.drewN n).alloc (J #[Z G 0,Z G 0,Z G 0,Q false,Q false] 43)).frozen? ⟨a.heap.size,o,I⟩=false:=λn=>Ag (w:=(a.drewN n).alloc (J #[Z G 0,Z G 0,Z G 0,Q false,Q false] 43)) (Ah (a.drewN n) _);have y:=λn=>l.trans ((A4 _ a n).mono l.size);replace y:=Hh y;have ad:=Ab d.out;have ze:∀n,((a.drewN n).alloc (J #[Z G 0,Z G 0,Z G 0,Q false,Q false] 43)).cell? ⟨w.heap.size,0,I⟩=O (Z G kd):=λn=>(By (w:=a) (((A4 _ a n).alloc Ln _).block _ aH)).trans e0;have aP:∀n,((a.drewN n).alloc (J #[Z G 0,Z G 0,Z G 0,Q false,Q false] 43)).cell? ⟨b,14,I⟩=O (Z G z.pl.lf.st):=λn=>(By (w:=a) (((A4 _ a n).alloc Ln _).block _ ad)).trans aJ;have aQ:∀n,((a.drewN n).alloc (J #[Z G 0,Z G 0,Z G 0,Q false,Q false] 43)).cell? ⟨b,15,I⟩=O (Z G z.pl.lf.bh):=λn=>(By (w:=a) (((A4 _ a n).alloc Ln _).block _ ad)).trans aK;have aR:∀n,((a.drewN n).alloc (J #[Z G 0,Z G 0,Z G 0,Q false,Q false] 43)).cell? ⟨b,16,I⟩=O (Z G z.pl.lf.left):=λn=>(By (w:=a) (((A4 _ a n).alloc Ln _).block _ ad)).trans aL;have aS:∀n,((a.drewN n).alloc (J #[Z G 0,Z G 0,Z G 0,Q false,Q false] 43)).cell? ⟨b,17,I⟩=O (Q z.pl.lf.wall):=λn=>(By (w:=a) (((A4 _ a n).alloc Ln _).block _ ad)).trans aM;have aT:∀n,((a.drewN n).alloc (J #[Z G 0,Z G 0,Z G 0,Q false,Q false] 43)).cell? ⟨b,18,I⟩=O (Q z.pl.lf.stop):=λn=>(By (w:=a) (((A4 _ a n).alloc Ln _).block _ ad)).trans aN;go_upto_region 5 with fail;go_region_law
    (first
      | (go_simp;go_at_call 101;refine(ks _).mono ?_
         rintro e w1 ⟨rfl,rfl⟩)
      | (go_simp;go_at_call 100;refine(kx _).mono ?_;rintro e w2 ⟨rfl,v⟩;have s2:=v.size;obtain⟨aF,aG⟩:=S8 v
         (try simp at s2)
         (try simp at aF)
         (try simp at aG)
         (try have aX:a.heap.size<w2.heap.size:=by omega)
         replace v:=Hh v))
   all_goals
    go_wp2;go_ret;refine⟨rfl,?_⟩
    first
     | exact((y _).trans (v.mono (y _).size)).alloc (A8 (y _).size v.size) _
     | exact E1 (E1 (E1 (E1 (E1 (((y _).alloc (y _).size _).trans (v.mono (by have:=l.size;simp;omega))) l.size) l.size) l.size) l.size) l.size
structure qb (w:WD) (u v:V4) (b:gd) (wr:WD):Prop where
 low:BW w.heap.size w wr
 b1:wr.heap[w.heap.size]?=O (J u.cells 30 (0,0))
 b2:wr.heap[w.heap.size+1]?=O (J v.cells 30 (0,0))
 res:wr.heap[w.heap.size+2]?=O (J #[Z G 0,Z G 0] 333 (0,0))
 ph:wr.heap[w.heap.size+3]?=O (J #[Z G b.1,Z G b.2] 333 (0,0))
def qb.next    (h:qb w u v b wr) (a:BW wr.heap.size wr w'):qb w u v b w':=
 ⟨h.low.trans (a.mono h.low.size),Ae a h.b1 (Ab h.b1),Ae a h.b2 (Ab h.b2),Ae a h.res (Ab h.res),Ae a h.ph (Ab h.ph)⟩
def qb.set    (h:qb w u v b wr) (x y:Int):qb w u v (x,y) ((wr.setCell ⟨w.heap.size+3,0,I⟩ (Z G x)).setCell ⟨w.heap.size+3,1,I⟩ (Z G y)):=
 ⟨Cr (Cr h.low ao9) ao9,(C1 _ _ _ _ (λe=>by simp at e)).trans ((C1 _ _ _ _ (λe=>by simp at e)).trans h.b1),(C1 _ _ _ _ (λe=>by simp at e)).trans ((C1 _ _ _ _ (λe=>by simp at e)).trans h.b2),(C1 _ _ _ _ (λe=>by simp at e)).trans ((C1 _ _ _ _ (λe=>by simp at e)).trans h.res),by
  have:=Ap (Ap h.ph 0 (Z G x)) 1 (Z G y)
  simpa using this⟩
structure xp (w:WD) (u v:V4) (b p:gd) (pv:VL) (wr:WD):Prop where
 dw:qb w u v b wr
 box:∃g,pv=K (O ⟨g,0,I⟩)/\wr.heap[g]?=O (J #[Z G p.1,Z G p.2] 333 (0,0))/\w.heap.size+3<g
def qb.s1    {a c:Int} (h:qb w u v b wr) (d:BW wr.drew.heap.size wr.drew w1):xp w u v b (a,c) (K (O ⟨w1.heap.size,0,I⟩)) (w1.alloc (J #[Z G a,Z G c] 333)):=by
 have h0:=h.next (A4 wr.heap.size wr 1);have h1:=h0.next d;have e:=Ab h1.ph;exact⟨h1.next Bn,_,rfl,Ah _ _,e⟩
def qb.s2    {c d:Int} (h:qb w u v b wr) (g:BW (wr.alloc (J #[Z G 0,Z G 0] 333)).drew.heap.size (wr.alloc (J #[Z G 0,Z G 0] 333)).drew w1) :
  xp w u v b (c,d) (K (O ⟨wr.heap.size,0,I⟩)) ((w1.setCell ⟨wr.heap.size,0,I⟩ (Z G c)).setCell ⟨wr.heap.size,1,I⟩ (Z G d)):=by
 have e:BW wr.heap.size wr (wr.alloc (J #[Z G 0,Z G 0] 333)).drew:=Bn.drew;have f:=e.trans (g.mono as9);have j:=Ae g (Ah _ _) as9;have i:=Ab h.ph;have a:BW wr.heap.size wr ((w1.setCell ⟨wr.heap.size,0,I⟩ (Z G c)).setCell ⟨wr.heap.size,1,I⟩ (Z G d)):=Cr (Cr f Ln) Ln;refine⟨h.next a,_,rfl,?_,i⟩;have:=Ap (Ap j 0 (Z G c)) 1 (Z G d);simpa using this
def Pi (v:V4):Prop:=∀d,d<4->v.get d<=9223372036854775807
def Zr {u v:V4} (h1:Pi u) (c:Pi v):∀d,d<=4->(F4 u v d).1.1<=9223372036854775807/\(F4 u v d).1.2<=9223372036854775807
 | 0,_=>by simp[F4]
 | d+1,hd=>by
  have h:=Zr h1 c d ao9;have a:=h1 d ao9;have b:=c d ao9;unfold F4;split
  .simp only[E9];omega
  .exact h
def Az3 (u v:V4) (w:WD) (h1:Pi u) (h2:Pi v):CS prog 250 #[u.val,v.val] w λe w'=>e=Y (E #[Rr (F4 u v 4).1,Z G (F4 u v 4).2])/\BW w.heap.size w w':=by
 obtain⟨W0,ad⟩:=Ex ((((w.alloc (J u.cells 30)).alloc (J v.cells 30)).alloc (J #[Z G 0,Z G 0] 333)).alloc (J #[Z G 0,Z G 0] 333));have ac:qb w u v (0,0) W0:=by rw[ad];exact⟨((Bn.alloc as9 _).alloc (by simp;omega) _).alloc (by simp;omega) _,Aj _ (Aj _ (Aj _ (Ah _ _))),Aj _ (Aj _ (A6 _ _ as9)),Aj _ (A6 _ _ as9),A6 _ _ as9⟩
 replace⟨ac,h1,h2⟩:=H3 ac h1 h2;go_enter func250,ntmps250;go_upto_region 2 with fail;rw[<-ad];clear ad;go_wp2_with fail;go_loopw [7,8,9,11] (λav _ _ iv wr=>∃(d:Nat),iv=Z G d/\d<=4/\av=Z G (F4 u v d).2/\Hid (qb w u v (F4 u v d).1 wr)) (λ_ _ _ iv _=>4-(intOf iv).toNat)
 case atStart=>exact⟨0,rfl,ao9,rfl,ac⟩
 case round=>
  obtain⟨d,rfl,aA,rfl,l⟩:=hrel;obtain⟨k,b⟩:=Ex ((F4 u v d).1);obtain⟨at_,j⟩:=Ex ((F4 u v d).2);have f:=Zr h1.out h2.out d aA;rw[<-b]at l f;rw[<-j];by_cases r:d<4
  .have aG:(d:Int)<4:=ao9;have aH:(0:Int)<=(d:Int):=ao9;have al:=h1 d r;have am:=h2 d r;obtain⟨x,hx⟩:=Ex (u.get d);obtain⟨y,hy⟩:=Ex (v.get d);have u0:=hx▸Vm l.b1 r;have v0:=hy▸Vm l.b2 r;have t:F4 u v (d+1)=if d=0\/0<G5 (E9 (x,y)) k then(E9 (x,y),(d:Int))else(k,at_):=(by rw[hx,hy,b,j];rfl);rw[<-hx]at al;rw[<-hy]at am;have kp:=λW=>Adf (x,y) W;obtain⟨⟨m,n⟩,hp⟩:∃p,p=E9 (x,y):=⟨_,rfl⟩;rw[<-hp]at kp t;replace kp:∀W,CS prog 293 #[.agg #[Z G x,Z G y]] W λe w'=>e=Y (.agg #[Z G m,Z G n])/\BW W.heap.size W w':=kp;have z:m<=9223372036854775807/\n<=9223372036854775807:=(by have:=hp;simp only[E9,Se]at this;omega);obtain⟨o,q⟩:=k;replace⟨b,j,f,al,am,hx,hy,t⟩:=H8 b j f al am hx hy t;replace⟨hp,z,kp⟩:=H3 hp z kp;go_upto_region 5 with fail;have aD:=Ab l.b1;have aE:=Ab l.b2;go_cut [9] (λpv wx=>xp w u v (o,q) (m,n) pv wx)
   case first=>
    go_region_law (first
     | (go_simp;go_at_call 293;refine(kp _).mono ?_;rintro e w1 ⟨rfl,a⟩;have s2:=a.size;obtain⟨ao,aC⟩:=S8 a
        (try simp at s2)
        (try simp at ao)
        (try simp at aC)
        (try have aK:wr.heap.size<w1.heap.size:=by omega)
        replace a:=Hh a))
    all_goals
     go_wp2_with fail;go_meet
     first
      | exact l.s1 a.out
      | exact l.s2 a.out
   case rest=>
    obtain⟨i,g,rfl,hg,an⟩:=hcut;have d0:=Bk hg 0 (Z G m) rfl;have d1:=Bk hg 1 (Z G n) rfl;have e0:=Bk i.ph 0 (Z G o) rfl;have e1:=Bk i.ph 1 (Z G q) rfl;have fe:=Ag i.ph;have kc:∀W,CS prog 251 #[.agg #[Z G m,Z G n],.agg #[Z G o,Z G q]] W λe w'=>e=Y (Z G (G5 (m,n) (o,q)))/\BW W.heap.size W w':=λW=>Ak0 (m,n) (o,q) W z.1 z.2 f.1 f.2;obtain⟨cv,s⟩:=Ex (G5 (m,n) (o,q));rw[<-s]at kc;have h:F4 u v (d+1)=if d=0\/0<cv then((m,n),(d:Int))else((o,q),at_):=(by rw[t.out,s]);clear u0 v0 aD aE;replace⟨i,hg,an,kc,s,h⟩:=H6 i hg an kc s h;by_cases ap:d=0
    .subst ap;have c:F4 u v 1=((m,n),(0:Int)):=(by rw[h.out,Ad (.inl rfl)];rfl);replace c:=Hh c;go_wp2_with fail;go_roundw
     case rel=>exact⟨1,rfl,ao9,by rw[c.out];rfl,Hh (by rw[c.out];exact i.set m n)⟩
     case measure=>simp[intOf]
    .have aI:((d:Int) == 0)=false:=(by simp;omega);have aJ:¬(d:Int)=0:=ao9;by_cases aF:0<cv
     .have c:F4 u v (d+1)=((m,n),(d:Int)):=(by rw[h.out,Ad (.inr aF)]);replace c:=Hh c;go_wp2_with (go_at_call 251;(with_reducible refine(kc.out _).mono ?_);rintro e w1 ⟨rfl,a⟩;have d0:=(Af a (Ab hg.out)).trans d0;have d1:=(Af a (Ab hg.out)).trans d1;have e0:=(Af a (Ab i.ph)).trans e0;have e1:=(Af a (Ab i.ph)).trans e1;have fe:=Ag (Ae a i.ph (Ab i.ph));replace i:=Hh (i.next a);replace a:=Hh a);go_roundw
      case rel=>exact⟨d+1,by go_num,ao9,by rw[c.out],Hh (by rw[c.out];exact i.set m n)⟩
      case measure=>simp[intOf];omega
     .have c:F4 u v (d+1)=((o,q),at_):=(by rw[h.out,Ac ao9]);replace c:=Hh c;go_wp2_with (go_at_call 251;(with_reducible refine(kc.out _).mono ?_);rintro e w1 ⟨rfl,a⟩;replace i:=Hh (i.next a);replace a:=Hh a);go_roundw
      case rel=>exact⟨d+1,by go_num,ao9,by rw[c.out],Hh (by rw[c.out];exact i.out)⟩
      case measure=>simp[intOf];omega
  .have aB:d=4:=ao9;subst aB;obtain⟨o,q⟩:=k;have u0:=Bk l.ph 0 (Z G o) rfl;have u1:=Bk l.ph 1 (Z G q) rfl;have r0:=Bk l.res 0 (Z G 0) rfl;have r1:=Bk l.res 1 (Z G 0) rfl;have fr:=Ag l.res;replace⟨b,j,f⟩:=H3 b j f;go_wp2;refine Al (v:=E #[.agg #[Z G o,Z G q],Z G at_]) (by simp[results,results250,go_sem,r0,r1]) rfl ⟨by rw[<-b.out,<-j.out],?_⟩;exact Cr (Cr l.low ao9) ao9
def Tp (s:du):Int:=min (max s.array 0) 50
def Ly (l:List du):Int:=(l.map Tp).foldl (·+·) 0
def Jg (l:List dy):Int:=(l.map λe=>Ly e.specs).foldl (·+·) 0
structure Am8 (es:List dy):Prop where
 len:es.length<=60
 sum:Jg es<=16
def Aei (es:List dy) (w:WD) (e:Ending) (w':WD):Prop:=∃b:Bool,e=Y (Q b)/\(b=true->Am8 es)/\BW w.heap.size w w'
def Am9 (l:List Int) (x:Int):(l++[x]).foldl (·+·) 0=l.foldl (·+·) 0+x:=by rw[Mt];rfl
def A2f (l:List du) (s:du):Ly (l++[s])=Ly l+Tp s:=by unfold Ly;rw[Dk];exact Am9 _ _
def Aej (l:List dy) (e:dy):Jg (l++[e])=Jg l+Ly e.specs:=by unfold Jg;rw[Dk];exact Am9 _ _
def A2g (s:du):0<=Tp s/\Tp s<=50:=by unfold Tp;omega
structure xt (w:WD) (es:List dy) (i:Nat) (n:Int) (wr:WD):Prop where
 low:BW w.heap.size w wr
 sum:n=Jg (es.take i)
 bd:0<=n/\n<=16
structure xr (w:WD) (es:List dy) (sp:List du) (i k:Nat) (n:Int) (wr:WD):Prop where
 low:BW w.heap.size w wr
 sum:n=Jg (es.take i)+Ly (sp.take k)
 bd:0<=n/\n<=16+50*(k:Int)
def Z0  (so:Option Addr) (m c:Nat) (xs:List de) (h:R0 w so m xs) :
  CS prog 19 #[V so m c] w (Aei (xs.map de.pl) w):=by
 have hl:=h.len;obtain⟨p,q⟩:=Ex (xs.map de.pl);have u:p.length=m:=by rw[q,Ar,hl]
 rw[<-q];by_cases hm:60<m
 .have d1:decide ((60:Int)<(m:Int))=true:=Az ao9;have hp:Aei p w (Y (Q false)) w:=⟨false,rfl,λc=>(by cases c),Below.refl _ _⟩;replace⟨h,hl,q,u,hp⟩:=H5 h hl q u hp;go_enter func19,ntmps19;go_wp2_with fail;go_ret;exact hp.out
 .have d1:decide ((60:Int)<(m:Int))=false:=A2 ao9;have aL:xt w p 0 0 w:=⟨Below.refl _ _,by simp[Jg],ao9⟩;replace⟨h,hl,q,u,aL⟩:=H5 h hl q u aL;go_enter func19,ntmps19;go_wp2_with fail;go_loopw [3,4,5,6] (λnv iv _ _ wr=>∃(i:Nat) (n:Int),nv=Z G n/\iv=Z G i/\i<=m/\Hid (xt w p i n wr)) (λ_ iv _ _ _=>m-(intOf iv).toNat)
  case atStart=>exact⟨0,0,rfl,rfl,As _,aL⟩
  case round=>
   rename WD=>wo
   obtain⟨i,n,rfl,rfl,hi,hS⟩:=hrel;by_cases hc:i<m
   .have aW:(i:Int)<m:=ao9;have a3:(0:Int)<=(i:Int):=ao9;obtain⟨x,hx⟩:=Ge xs i (by have:=hl.out;omega);obtain⟨b,aY,rfl,aO,aN,aS⟩:=h.cell i x hx
    have ao:p.take (i+1)=p.take i++[x.pl]:=by
     have:p[i]?=O x.pl:=by rw[q.out,A7,hx];rfl
     exact Jq this
    obtain⟨en,aT,z,ec,aH⟩:=x;obtain⟨sl,an⟩:=Ex (aH.map ay.pl);have aD:∀W:WD,BW w.heap.size w W->W.cell? ⟨b,aY+i*10+9,I⟩=O (V aT z ec):=λW hW=>(Af hW aO).trans (aN 9 ao9);have ao:p.take (i+1)=p.take i++[⟨en,sl⟩]:=(by rw[ao,an];rfl);have aE:Kv w aT z aH:=aS.dj;have s:=aE.len;have q9:=aD wo hS.low;replace⟨hx,aO,aN,aS,ao,an,aD,aE⟩:=H8 hx aO aN aS ao an aD aE;replace s:=Hh s;by_cases h8:8<z
    .have d8:decide ((8:Int)<(z:Int))=true:=Az ao9;go_wp2_with fail;go_ret;exact⟨false,rfl,λc=>(by cases c),hS.low⟩
    .have d8:decide ((8:Int)<(z:Int))=false:=A2 ao9;have aJ:xr w p sl i 0 n wo:=⟨hS.low,by rw[hS.sum];simp[Ly],by have:=hS.bd;omega⟩;replace aJ:=Hh aJ;go_wp2_with fail;clear q9;go_loopw [3,5,6] (λnv kv _ wr=>∃(k:Nat) (n2:Int),nv=Z G n2/\kv=Z G k/\k<=z/\Hid (xr w p sl i k n2 wr)) (λ_ kv _ _=>z-(intOf kv).toNat)
     case atStart=>exact⟨0,n,rfl,rfl,As _,aJ⟩
     case round=>
      obtain⟨k,n2,rfl,rfl,hk,hV⟩:=hrel;have q9:=aD _ hV.low;by_cases a2:k<z
      .have aX:(k:Int)<z:=ao9;have a4:(0:Int)<=(k:Int):=ao9;obtain⟨y,hy⟩:=Ge aH k (by have:=s.out;omega);obtain⟨t,a,rfl,am,ad,aU⟩:=aE.cell k y hy;have d:=λj hj=>(Af hV.low am).trans (ad j hj)
       have ap:sl.take (k+1)=sl.take k++[y.pl]:=by
        have:sl[k]?=O y.pl:=by rw[an.out,A7,hy];rfl
        exact Jq this
       obtain⟨⟨f,e,nodes,⟨da,db,dc,dd⟩,aB,aA,array,ae,al,after⟩,aG,sn,aF⟩:=y;have z0:wr.cell? ⟨t,a+k*13,I⟩=O (D f):=d 0 ao9;have z1:wr.cell? ⟨t,a+k*13+1,I⟩=O (D e):=d 1 ao9;have z2:wr.cell? ⟨t,a+k*13+2,I⟩=O (Z G nodes):=d 2 ao9;have z3:wr.cell? ⟨t,a+k*13+3,I⟩=O (Z G da):=d 3 ao9;have z4:wr.cell? ⟨t,a+k*13+4,I⟩=O (Z G db):=d 4 ao9;have z5:wr.cell? ⟨t,a+k*13+5,I⟩=O (Z G dc):=d 5 ao9;have z6:wr.cell? ⟨t,a+k*13+6,I⟩=O (Z G dd):=d 6 ao9;have z7:wr.cell? ⟨t,a+k*13+7,I⟩=O (Z G aB):=d 7 ao9;have z8:wr.cell? ⟨t,a+k*13+8,I⟩=O (Z G aA):=d 8 ao9;have z9:wr.cell? ⟨t,a+k*13+9,I⟩=O (Z G array):=d 9 ao9;have aZ:wr.cell? ⟨t,a+k*13+10,I⟩=O (Z G ae):=d 10 ao9;have a0:wr.cell? ⟨t,a+k*13+11,I⟩=O (Q al):=d 11 ao9;have a1:wr.cell? ⟨t,a+k*13+12,I⟩=O (V aG sn aF):=d 12 ao9;replace⟨ad,d,am,aU,ap,hy⟩:=H6 ad d am aU ap hy;go_upto_region 13 with fail;clear z0 z1 z2 z3 z4 z5 z6 z7 z8 z9 aZ a0 a1;obtain⟨nb,aQ⟩:=Ex (wr.heap.size);obtain⟨W1,aC⟩:=Ex (wr.alloc (J (⟨⟨f,e,nodes,⟨da,db,dc,dd⟩,aB,aA,array,ae,al,after⟩,aG,sn,aF⟩:ay).cells 33 (0,0)));have aM:BW wr.heap.size wr W1:=(by rw[aC];exact Bn);have v:W1.heap[nb]?=O (J (⟨⟨f,e,nodes,⟨da,db,dc,dd⟩,aB,aA,array,ae,al,after⟩,aG,sn,aF⟩:ay).cells 33 (0,0)):=(by rw[aC,aQ];exact Ah _ _);rw[<-aC,<-aQ];clear aC aQ q9;have l:=hV.low.trans (aM.mono hV.low.size);have p0:=Bk v 0 (D f) rfl;have p1:=Bk v 1 (D e) rfl;have p9:=Bk v 9 (Z G array) rfl;have a7:=Bk v 12 (V aG sn aF) rfl;have o:Aei p w (Y (Q false)) W1:=⟨false,rfl,λc=>(by cases c),l⟩;replace⟨aM,v,l,o⟩:=H4 aM v l o;by_cases g1:20<sn
       .have e1:decide ((20:Int)<(sn:Int))=true:=Az ao9;go_wp2_with fail;go_ret;exact o.out
       have e1:decide ((20:Int)<(sn:Int))=false:=A2 ao9;by_cases g2:100<f.size
       .have e2:decide ((100:Int)<(f.size:Int))=true:=Az ao9;go_wp2_with fail;go_ret;exact o.out
       have e2:decide ((100:Int)<(f.size:Int))=false:=A2 ao9;by_cases g3:100<e.size
       .have e3:decide ((100:Int)<(e.size:Int))=true:=Az ao9;go_wp2_with fail;go_ret;exact o.out
       have e3:decide ((100:Int)<(e.size:Int))=false:=A2 ao9;have aV:=hV.bd;have a6:IntKind.i64.wrap (n2+min (max array 0) 50)=n2+min (max array 0) 50:=Ja ao9 ao9
       have aK:xr w p sl i (k+1) (n2+min (max array 0) 50) W1:=⟨l.out,by
        rw[ap.out,A2f,hV.sum];show _+min (max array 0) 50=_+(_+min (max array 0) 50)
        omega,ao9⟩
       replace⟨aK,aV⟩:=H2 aK aV;go_wp2_with fail;go_roundw
       case rel=>exact⟨k+1,_,rfl,by go_num,ao9,aK⟩
       case measure=>simp[intOf];omega
      .have aX:¬(k:Int)<z:=ao9;have a5:k=z:=ao9;have r:sl.take k=sl:=C4 (by rw[an.out,Ar,s.out];omega);have av:n2=Jg (p.take (i+1)):=(by rw[ao.out,Aej,hV.sum,r]);have ac:=hV.bd;replace⟨r,av,ac⟩:=H3 r av ac;by_cases g:16<n2
       .have e1:=Az g;go_wp2_with fail;go_ret;exact⟨false,rfl,λc=>(by cases c),hV.low⟩
       .have e1:=A2 g;have aI:xt w p (i+1) n2 wr:=⟨hV.low,av.out,by have:=ac.out;omega⟩;replace aI:=Hh aI;go_wp2_with fail;go_roundw
        case rel=>exact⟨i+1,_,rfl,by go_num,ao9,aI⟩
        case measure=>simp[intOf];omega
   .have aW:¬(i:Int)<m:=ao9;have aR:Am8 p:=(by have h1:=hS.sum;have h2:=hS.bd;rw[C4 (by rw[u.out];omega)]at h1;exact⟨by rw[u.out];omega,ao9⟩);have aP:=hS.low;replace⟨aR,aP⟩:=H2 aR aP;go_wp2_with fail;go_ret;exact⟨true,rfl,λ_=>aR.out,aP.out⟩
structure Tr (w:WD) (x:aj):Prop where
 vp:(⟨x.pl.sp,x.so,x.sn,x.sc⟩:ay).ok w
 ah:At w x.go x.gn x.pl.ah
 pn:x.pn=x.pl.parts.length
 j8:x.pn<=1000
 part:∀k p,x.pl.parts[k]?=O p->∃b,x.po=O ⟨b,0,I⟩/\b<w.heap.size/\w.cell? ⟨b,k*2,I⟩=O (Z G p.1)/\w.cell? ⟨b,k*2+1,I⟩=O (Z G p.2)
def Tr.low  {x:aj} (h:Tr w x) (a:BW w.heap.size w w'):Tr w' x:=
 ⟨h.vp.low a,h.ah.low a,h.pn,h.j8,λk p g=>by
  obtain⟨b,e,c,d,f⟩:=h.part k p g
  exact⟨b,e,Bq c a.size,(Af a c).trans d,(Af a c).trans f⟩⟩
def A2p  (x y:aj) (h:y.pl=x.pl) (hx:Tr w x) (hy:Tr w y):CS prog 24 #[x.val,y.val] w λe w'=>e=Y (Q true)/\BW w.heap.size w w':=by
 obtain⟨r,o⟩:=Ex ((w.alloc (J x.cells 46 (0,0))).alloc (J y.cells 46 (0,0)));have b0:BW w.heap.size w r:=by rw[o];exact Bn.alloc as9 _
 have c:r.heap[w.heap.size]?=O (J x.cells 46 (0,0)):=by rw[o];exact Aj _ (Ah _ _)
 have d:r.heap[w.heap.size+1]?=O (J y.cells 46 (0,0)):=by rw[o];exact A6 _ _ as9
 have z:=hx.low b0;have hY:=hy.low b0;have t:=λW (hW:BW r.heap.size r W)=>Ar8 _ _ W (z.low hW).vp (hY.low hW).vp;have q:=λW (hW:BW r.heap.size r W)=>Agt x.go y.go x.gn y.gn x.gc y.gc x.pl.ah y.pl.ah W (z.low hW).ah (hY.low hW).ah;unfold Ab2 at t;unfold Abs at q;simp only[Az (show x.pl.ah=y.pl.ah by rw[h])]at q;have aE:y.pn=x.pn:=by rw[hY.pn,z.pn,h]
 obtain⟨pl,so,sn,sc,go,gn,gc,po,pn,pc⟩:=x;obtain⟨aM,aI,aH,aG,al,ad,ac,aF,g,an⟩:=y;simp only at h aE;subst h aE;obtain⟨id,⟨m,j,nodes,⟨da,db,dc,dd⟩,n,l,array,ae,i,after⟩,⟨st,bh,left,lw,ls⟩,start,ah,parts⟩:=aM;have aD:=z.j8;have s:=z.pn;simp only at aD s;clear hx hy;replace⟨z,hY,t,q,b0,c,d,s⟩:=H8 z hY t q b0 c d s;go_enter func24,ntmps24;go_upto_region 1 with fail;rw[<-o];clear o;have x0:=Bk c.out 0 (Z G id) rfl;have x1:=Bk c.out 1 (D m) rfl;have x2:=Bk c.out 2 (D j) rfl;have x3:=Bk c.out 3 (Z G nodes) rfl;have x4:=Bk c.out 4 (Z G da) rfl;have x5:=Bk c.out 5 (Z G db) rfl;have x6:=Bk c.out 6 (Z G dc) rfl;have x7:=Bk c.out 7 (Z G dd) rfl;have x8:=Bk c.out 8 (Z G n) rfl;have x9:=Bk c.out 9 (Z G l) rfl;have ao:=Bk c.out 10 (Z G array) rfl;have x11:=Bk c.out 11 (Z G ae) rfl;have x12:=Bk c.out 12 (Q i) rfl;have ap:=Bk c.out 13 (V so sn sc) rfl;have aN:=Bk c.out 14 (Z G st) rfl;have x15:=Bk c.out 15 (Z G bh) rfl;have x16:=Bk c.out 16 (Z G left) rfl;have x17:=Bk c.out 17 (Q lw) rfl;have x18:=Bk c.out 18 (Q ls) rfl;have x19:=Bk c.out 19 (Z G start) rfl;have x20:=Bk c.out 20 (V go gn gc) rfl;have x21:=Bk c.out 21 (V po g pc) rfl;have y0:=Bk d.out 0 (Z G id) rfl;have y1:=Bk d.out 1 (D m) rfl;have y2:=Bk d.out 2 (D j) rfl;have y3:=Bk d.out 3 (Z G nodes) rfl;have y4:=Bk d.out 4 (Z G da) rfl;have y5:=Bk d.out 5 (Z G db) rfl;have y6:=Bk d.out 6 (Z G dc) rfl;have y7:=Bk d.out 7 (Z G dd) rfl;have y8:=Bk d.out 8 (Z G n) rfl;have y9:=Bk d.out 9 (Z G l) rfl;have av:=Bk d.out 10 (Z G array) rfl;have aA:=Bk d.out 11 (Z G ae) rfl;have aB:=Bk d.out 12 (Q i) rfl;have aC:=Bk d.out 13 (V aI aH aG) rfl;have aO:=Bk d.out 14 (Z G st) rfl;have aP:=Bk d.out 15 (Z G bh) rfl;have aQ:=Bk d.out 16 (Z G left) rfl;have aR:=Bk d.out 17 (Q lw) rfl;have aS:=Bk d.out 18 (Q ls) rfl;have aT:=Bk d.out 19 (Z G start) rfl;have u:=Bk d.out 20 (V al ad ac) rfl;have v:=Bk d.out 21 (V aF g an) rfl;go_wp2_with fail;clear x0 x1 x2 x3 x4 x5 x6 x7 x8 x9 ao x11 x12 ap aN x15 x16 x17 x18 x19 x20 x21 y0 y1 y2 y3 y4 y5 y6 y7 y8 y9 av aA aB aC aO aP aQ aR aS aT u v;go_loopw [5] (λiv wr=>∃(k:Nat),iv=Z G k/\k<=g/\Hid (BW r.heap.size r wr)) (λiv _=>g-(intOf iv).toNat)
 case atStart=>exact⟨0,rfl,As _,Below.refl _ _⟩
 case round=>
  obtain⟨k,rfl,hk,a⟩:=hrel;by_cases hc:k<g
  .have aL:(k:Int)<g:=ao9;have aU:(0:Int)<=(k:Int):=ao9;obtain⟨⟨p1,p2⟩,hp⟩:=Ge parts k (by have:=s.out;omega);obtain⟨b,e,_,c0,c1⟩:=(z.low a.out).part k _ hp;obtain⟨b',e',_,aJ,aK⟩:=(hY.low a.out).part k _ hp;simp only at e e' c0 c1 aJ aK;subst e e';have x21:wr.cell? ⟨w.heap.size,21,I⟩=O (V (O ⟨b,0,I⟩) g pc):=Aa (Ae a.out c.out (Ab c.out)) 21;have v:wr.cell? ⟨w.heap.size+1,21,I⟩=O (V (O ⟨b',0,I⟩) g an):=Aa (Ae a.out d.out (Ab d.out)) 21;replace hp:=Hh hp;go_upto_region 6 with fail;go_quiet (fail);rename_i nq;have am:=a.trans ((A4 _ wr nq).mono a.size);replace am:=Hh am;go_wp2_with fail;go_roundw
   case rel=>exact⟨k+1,by go_num,ao9,am⟩
   case measure=>simp[intOf];omega
  .have aL:¬(k:Int)<g:=ao9;have x1:wr.cell? ⟨w.heap.size,1,I⟩=O (D m):=Aa (Ae a.out c.out (Ab c.out)) 1;have x2:wr.cell? ⟨w.heap.size,2,I⟩=O (D j):=Aa (Ae a.out c.out (Ab c.out)) 2;have x3:wr.cell? ⟨w.heap.size,3,I⟩=O (Z G nodes):=Aa (Ae a.out c.out (Ab c.out)) 3;have x4:wr.cell? ⟨w.heap.size,4,I⟩=O (Z G da):=Aa (Ae a.out c.out (Ab c.out)) 4;have x5:wr.cell? ⟨w.heap.size,5,I⟩=O (Z G db):=Aa (Ae a.out c.out (Ab c.out)) 5;have x6:wr.cell? ⟨w.heap.size,6,I⟩=O (Z G dc):=Aa (Ae a.out c.out (Ab c.out)) 6;have x7:wr.cell? ⟨w.heap.size,7,I⟩=O (Z G dd):=Aa (Ae a.out c.out (Ab c.out)) 7;have x8:wr.cell? ⟨w.heap.size,8,I⟩=O (Z G n):=Aa (Ae a.out c.out (Ab c.out)) 8;have x9:wr.cell? ⟨w.heap.size,9,I⟩=O (Z G l):=Aa (Ae a.out c.out (Ab c.out)) 9;have ao:wr.cell? ⟨w.heap.size,10,I⟩=O (Z G array):=Aa (Ae a.out c.out (Ab c.out)) 10;have x11:wr.cell? ⟨w.heap.size,11,I⟩=O (Z G ae):=Aa (Ae a.out c.out (Ab c.out)) 11;have x12:wr.cell? ⟨w.heap.size,12,I⟩=O (Q i):=Aa (Ae a.out c.out (Ab c.out)) 12;have ap:wr.cell? ⟨w.heap.size,13,I⟩=O (V so sn sc):=Aa (Ae a.out c.out (Ab c.out)) 13;have x20:wr.cell? ⟨w.heap.size,20,I⟩=O (V go gn gc):=Aa (Ae a.out c.out (Ab c.out)) 20;have x21:wr.cell? ⟨w.heap.size,21,I⟩=O (V po g pc):=Aa (Ae a.out c.out (Ab c.out)) 21;have y1:wr.cell? ⟨w.heap.size+1,1,I⟩=O (D m):=Aa (Ae a.out d.out (Ab d.out)) 1;have y2:wr.cell? ⟨w.heap.size+1,2,I⟩=O (D j):=Aa (Ae a.out d.out (Ab d.out)) 2;have y3:wr.cell? ⟨w.heap.size+1,3,I⟩=O (Z G nodes):=Aa (Ae a.out d.out (Ab d.out)) 3;have y4:wr.cell? ⟨w.heap.size+1,4,I⟩=O (Z G da):=Aa (Ae a.out d.out (Ab d.out)) 4;have y5:wr.cell? ⟨w.heap.size+1,5,I⟩=O (Z G db):=Aa (Ae a.out d.out (Ab d.out)) 5;have y6:wr.cell? ⟨w.heap.size+1,6,I⟩=O (Z G dc):=Aa (Ae a.out d.out (Ab d.out)) 6;have y7:wr.cell? ⟨w.heap.size+1,7,I⟩=O (Z G dd):=Aa (Ae a.out d.out (Ab d.out)) 7;have y8:wr.cell? ⟨w.heap.size+1,8,I⟩=O (Z G n):=Aa (Ae a.out d.out (Ab d.out)) 8;have y9:wr.cell? ⟨w.heap.size+1,9,I⟩=O (Z G l):=Aa (Ae a.out d.out (Ab d.out)) 9;have av:wr.cell? ⟨w.heap.size+1,10,I⟩=O (Z G array):=Aa (Ae a.out d.out (Ab d.out)) 10;have aA:wr.cell? ⟨w.heap.size+1,11,I⟩=O (Z G ae):=Aa (Ae a.out d.out (Ab d.out)) 11;have aB:wr.cell? ⟨w.heap.size+1,12,I⟩=O (Q i):=Aa (Ae a.out d.out (Ab d.out)) 12;have aC:wr.cell? ⟨w.heap.size+1,13,I⟩=O (V aI aH aG):=Aa (Ae a.out d.out (Ab d.out)) 13;have u:wr.cell? ⟨w.heap.size+1,20,I⟩=O (V al ad ac):=Aa (Ae a.out d.out (Ab d.out)) 20;have v:wr.cell? ⟨w.heap.size+1,21,I⟩=O (V aF g an):=Aa (Ae a.out d.out (Ab d.out)) 21;have k1:=t wr a.out;replace k1:=Hh k1;go_wp2_with fail;refine k1.mono ?_;rintro e w1 ⟨rfl,b1⟩;have f:=a.trans (b1.mono a.size);clear x1 x2 x3 x4 x5 x6 x7 x8 x9 ao x11 x12 ap x20 x21 y1 y2 y3 y4 y5 y6 y7 y8 y9 av aA aB aC u v;replace a:=Hh f;have x20:w1.cell? ⟨w.heap.size,20,I⟩=O (V go gn gc):=Aa (Ae f c.out (Ab c.out)) 20;have u:w1.cell? ⟨w.heap.size+1,20,I⟩=O (V al ad ac):=Aa (Ae f d.out (Ab d.out)) 20;have k2:=q w1 f;replace⟨k2,b1,f⟩:=H3 k2 b1 f;go_wp2_with fail;refine k2.mono ?_;rintro e w2 ⟨rfl,b2⟩;have p:=b0.trans ((f.trans (b2.mono f.size)).mono b0.size);replace⟨p,b2⟩:=H2 p b2;go_wp2_with fail;go_ret;exact⟨rfl,p.out⟩
