/- Parts of a proof. No condition. -/
import Derived.Test.YtimlcnhcjndijaaGreatDoorH18
set_option linter.all false
set_option maxRecDepth 100000
set_option maxHeartbeats 3200000
namespace Go.Proofs.YtimlcnhcjndijaaGreatDoor
open IntKind renaming i64->G
open Option renaming some->O,none->I
open Value renaming int->Z,slice->V,bool->Y,pointer->K,tuple->D,string->E
open Ending renaming returned->Q
open Obj renaming cells->J
open Go renaming World->WD,Value->VL,Calls->CS
open Go.RowKit renaming Below->BW
open Go.Proofs.Tryz
section
open Go.RowKit Go.Maps Go.Lib
def Axe (w:WD):(zeroValue 123).run prog w=.ok (Gx Cl.zero) w:=by kernel_rfl
def yz {n:Int} (h1:-9223372036854775808<=n) (a:n<=9223372036854775807):(Lit.int G n).wf=true:=by
 simp[Lit.wf,IntKind.min,IntKind.max,IntKind.signed,IntKind.bits];omega
def Acw {w:WD} {c:Nat} {l:List (Int×Cl)} (h:K7 w c l) {id:Int} (h1:-9223372036854775808<=id) (d:id<=9223372036854775807):(Instr.lookup 108 (.map (O c)) (Z G id) false).run prog w=.ok (Gx (D2 l id)) w:=by
 obtain⟨v,f,a,b⟩:=World.ownsMap.lookup h (int_keyed Kr) Zh (Axe w) (Aff Cl.zero) (keyOf_int_mk Kr (yz h1 d))
 have:v=Gx (D2 l id):=by have e:=Ao5 l id;unfold Fi at e;rw[e]at b;exact Ao2 b
 rw[a,this]
def Aj8:(prog.info? 65).map (λi=>(i.zero,i.size,i.bytes))=O (O (.agg #[Z G 0,Z G 0]),2,16):=by kernel_rfl
def Yy (w:WD) (x:aq) (e:Ending) (w':WD):Prop:=∃po pc,e=Q (V po x.pn pc)/\w'.ownsRow w.heap.size 65 2 (V po x.pn pc) x.pn (Aq Fh x.pl.parts)/\BW w.heap.size w w'
def Axi {w:WD} {x:aq} (h:Bo w x) (hn:x.pn<=1000000):CS prog 88 #[V x.po x.pn x.pc] w (Yy w x):=by
 obtain⟨i0,hi,y,z,ac⟩:=B6 Aj8;have q:=I9 h;have mx:maxLen=9223372036854775807:=by kernel_rfl
 have qN:∀(w:WD) (a:Option Addr) (n c n' c':Nat),(binOp .eql 44 (V a n c) (V I n' c')).run prog w=.ok (Y a.isNone) w:=λw a n c n' c'=>Lib.run_eql_slice_nil w _ _ a n c n' c' Zx;obtain⟨n,m⟩:=Ex (x.pn);rcases h.2 with⟨e,h0⟩|⟨g,cap,aA,e,_,hg,ao,am,an,ap⟩
 .simp at e;obtain⟨e1,e2,e3⟩:=e;have t:x.pl.parts=[]:=List.eq_nil_of_length_eq_zero ao9;rw[e1,e2,e3];have d:Yy w x (Q (V I 0 0)) w:=⟨I,0,by rw[e2],by rw[e2,t];exact Mu _ _ _ _,Below.refl _ _⟩;clear hi y z ac m;replace⟨d,h,e1,e2,e3,t,q,h0⟩:=H8 d h e1 e2 e3 t q h0;replace hn:=Hh hn;go_enter func88,ntmps88;go_wp2;go_ret;exact d.out
 .simp at e;obtain⟨e1,e3⟩:=e;have v:BW w.heap.size w (w.alloc (J #[] 65)):=Bn;have o:(w.alloc (J #[] 65)).ownsRow w.heap.size 65 2 (V (O ⟨w.heap.size,0,I⟩) 0 0) 0 []:=⟨rfl,.inr ⟨w.heap.size,0,#[],rfl,Nat.le_refl _,Ah _ _,Nat.le_refl _,ao9,rfl,rfl⟩⟩
  have ad:=λj u hu=>by
   have h2:(w.alloc (J #[] 65)).ownsRow 0 65 2 (V x.po x.pn x.pc) x.pn (Aq Fh x.pl.parts):=Bo.low h v;exact World.ownsRow.cells h2 (g:=g) (by rw[e1];rfl) j u hu
  have af:(Aq Fh x.pl.parts).length=n*2:=by rw[Aqr,q,m]
  have s:∀u∈Aq Fh x.pl.parts,u.oneCell'=true:=λu hu=>by
   unfold Aq at hu;obtain⟨p,_,t⟩:=List.mem_flatMap.1 hu;simp at t
   rcases t with rfl|rfl<;>rfl
  have d:∀po pc W,W.ownsRow w.heap.size 65 2 (V po n pc) n (Aq Fh x.pl.parts)->BW w.heap.size w W->Yy w x (Q (V po n pc)) W:=λpo pc W a b=>⟨po,pc,by rw[m],by rw[m]at a;exact a,b⟩;rw[e1,<-m];obtain⟨pc,al⟩:=Ex (x.pc);rw[<-al];have aB:n<=1000000:=ao9
  replace⟨d,h,e1,e3,q,hn,hi,y⟩:=H8 d h e1 e3 q hn hi y;replace⟨z,ac,v,o,ad,af,s,m⟩:=H8 z ac v o ad af s m;replace⟨hg,ao,am,an,ap,al⟩:=H6 hg ao am an ap al;go_enter func88,ntmps88;go_wp2_with (at_builtin;refine J6 _ rfl _ _ 44 rfl w.heap.size 65 i0 (.agg #[Z G 0,Z G 0]) 2 16 Zx hi.out y.out z.out ac.out rfl ad9 _ _ _ rfl o.out ⟨g,0,I⟩ n pc (Aq Fh x.pl.parts) rfl af.out ad.out s.out ?c3 ?c4 ?c5 ?c6)
  case c3=>omega
  case c4=>omega
  case c5=>simp
  case c6=>
   intro v' w2 f i r;have l:=v.grown i as9 (λk hk=>(o.lt k hk).1);rcases Joins.ownsRow_forms f with⟨rfl,h0⟩|⟨g2,av,rfl⟩
   .exact absurd rfl r
   .have t:=d _ _ w2 f l;replace⟨f,i,l,t,r⟩:=H5 f i l t r;go_wp2;go_ret;exact t.out
structure Ip (w0 w':WD) (x y:aq):Prop where
 pl:y.pl=x.pl
 sn:y.sn=x.sn
 gn:y.gn=x.gn
 pn:y.pn=x.pn
 after:Ao w' y.so y.sn x.pl.sp.after
 oo:y.sn<=y.sc
 uk:∀b o,y.so=O ⟨b,o,I⟩->w0.heap.size<=b
 xq:∀b o,y.so=O ⟨b,o,I⟩->∃cc,w'.heap[b]?=O (J cc 3 (0,0))
 aj:Ao w' y.go y.gn x.pl.aj
 nf:y.gn<=y.gc
 um:∀b o,y.go=O ⟨b,o,I⟩->w0.heap.size<=b
 xy:∀b o,y.go=O ⟨b,o,I⟩->∃cc,w'.heap[b]?=O (J cc 3 (0,0))
 parts:w'.ownsRow w0.heap.size 65 2 (V y.po y.pn y.pc) y.pn (Aq Fh x.pl.parts)
def Aj9 (w:WD) (x:aq) (e:Ending) (w':WD):Prop:=∃y,e=Q y.val/\Ip w w' x y/\BW w.heap.size w w'
structure Lm (w:WD) (y:aq) (W:WD):Prop where
 low:BW w.heap.size w W
 res:W.heap[w.heap.size]?=O (J aq.zero.cells 46 (0,0))
 cp:W.heap[w.heap.size+1]?=O (J y.cells 46 (0,0))
def Lm.next {w W b:WD} {y:aq} (h:Lm w y W) (a:BW W.heap.size W b):Lm w y b:=
 ⟨h.low.trans (a.mono h.low.size),Ae a h.res (Ac h.res),Ae a h.cp (Ac h.cp)⟩
def Lm.set {w W:WD} {y z:aq} (h:Lm w y W) (o:Nat) (v:VL) (e:y.cells.setIfInBounds o v=z.cells):Lm w z (W.setCell ⟨w.heap.size+1,o,I⟩ v):=
 ⟨⟨h.low.os,h.low.tape,h.low.output,by have:=h.low.size;simpa[World.setCell]using this,λk a=>(Ci _ _ _ _ (λe=>by simp at e;omega)).trans (h.low.block k a)⟩,(Ci _ _ _ _ (λe=>by simp at e)).trans h.res,by rw[<-e];exact Am h.cp _ _⟩
def J1:(prog.info? 46).map (·.size)=O 22:=by kernel_rfl
def Ps {B:Nat} {a w:WD} (h:BW B a w) {g:Nat} (d:B<=g) (c:Array VL):BW B a (w.setRow g c):=
 ⟨h.os,h.tape,h.output,by have:=h.size;simpa[World.setRow]using this,λk b=>(Tr w g k c ao9).trans (h.block k b)⟩
def Lm.new (w:WD) (x:aq):Lm w x (((w.alloc (J Jz 46)).alloc (J Jz 46)).setRow (w.heap.size+1) x.cells):=
 ⟨Ps (Bn.alloc as9 _) ao9 _,(Tr _ _ _ _ ao9).trans (Ak _ (Ah _ _)),Lv _ _ _ _ _ _ (A2 _ _ as9)⟩
def Aka {S:Nat->Prop} {w:WD} {g:Nat} (c:Array VL) (_:w=w) (h:S g):Mod S w (w.setRow g c):=⟨rfl,rfl,rfl,by simp[World.setRow],λk _ a=>Tr w g k c (λe=>a (e▸h))⟩
def Td (a k:Nat):Prop:=k=a\/k=a+1
def Yz {w:WD} {B B' size n:Nat} {T:TypeId} {v:VL} {xs:List VL} (h:w.ownsRow B T size v n xs) (a:B'<=B):w.ownsRow B' T size v n xs:=
 ⟨h.1,h.2.imp id λ⟨g,cap,cur,e,hg,r⟩=>⟨g,cap,cur,e,Aw a hg,r⟩⟩
def On (x:aq):x.cells.all (·.oneCell')=true:=by simp[aq.cells,Value.oneCell']
def Akb {w:WD} {b:Nat} {x:aq} {S:Nat->Prop} (a:Ba w b x) (q:Nb w S x) (h1:x.sn<=1000) (h2:x.gn<=1000) (h3:x.pn<=1000000) :
  CS prog 47 #[K (O ⟨b,0,I⟩)] w (Aj9 w x):=by
 have an:=Ac a;have g:=Lm.new w x;obtain⟨W1,r⟩:=Ex (((w.alloc (J Jz 46)).alloc (J Jz 46)).setRow (w.heap.size+1) x.cells);rw[<-r]at g;have ap:w.heap.size+2=W1.heap.size:=by rw[r];simp[World.setRow]
 have z:(w.alloc (J Jz 46)).heap[b]?=O (J x.cells 46 (0,0)):=Ak _ a;have ad:((w.alloc (J Jz 46)).alloc (J Jz 46)).heap[w.heap.size+1]?=O (J Jz 46 (0,0)):=A2 _ _ as9;have x1:=Bk (Ae g.low a an) 13 (V x.so x.sn x.sc) rfl;have af:∀W,BW w.heap.size w W->CS prog 87 #[V x.so x.sn x.sc] W (Uk x.sn x.pl.sp.after W):=λW hW=>Yx _ _ _ _ _ (q.after.row.low hW) h1;have al:∀W,BW w.heap.size w W->CS prog 87 #[V x.go x.gn x.gc] W (Uk x.gn x.pl.aj W):=λW hW=>Yx _ _ _ _ _ (q.aj.row.low hW) h2;have am:∀W,BW w.heap.size w W->CS prog 88 #[V x.po x.pn x.pc] W (Yy W x):=λW hW=>Axi (Bo.low q.parts hW) h3;have k1:=af _ g.low;replace⟨a,q,h1,h2,h3,g,af,al⟩:=H8 a q h1 h2 h3 g af al;replace⟨am,k1,z,ad,ap⟩:=H5 am k1 z ad ap;go_enter func47,ntmps47;go_upto_region 2 with(first|(refine Wf rfl 46 _ rfl b rfl 46 x.cells (0,0) _ (by first|exact z.out|exact a.out) Rn rfl J1 ?_)|(refine Mv rfl 46 _ _ rfl (w.heap.size+1) x.cells rfl rfl 46 _ ad.out J1 rfl (On x) ?_));rw[<-r];clear r z ad;go_wp2_with fail;refine k1.mono ?_;rintro e w2 ⟨s1,c1,rfl,q1,i1,f1,b1⟩;have j:=g.next b1;have aE:=Bk j.cp 13 (V x.so x.sn x.sc) rfl;have aB:=Ag j.cp;have h:Lm w { x with so:=s1,sc:=c1 } (w2.setCell ⟨w.heap.size+1,13,I⟩ (V s1 x.sn c1)):=j.set 13 _ rfl;obtain⟨W3,s⟩:=Ex (w2.setCell ⟨w.heap.size+1,13,I⟩ (V s1 x.sn c1));rw[<-s]at h;have x2:=Bk (Ae h.low a.out an) 20 (V x.go x.gn x.gc) rfl;have k2:=al _ h.low;replace⟨q1,i1,f1,b1,j,h,k2⟩:=H7 q1 i1 f1 b1 j h k2;clear x1;go_upto_region 3 with fail;rw[<-s];have av:=Hh s;clear s aE aB;go_wp2_with fail;refine k2.mono ?_;rintro e w4 ⟨s2,c2,rfl,q2,i2,f2,b2⟩;have l:=h.next b2;have aF:=Bk l.cp 20 (V x.go x.gn x.gc) rfl;have aC:=Ag l.cp;have i:Lm w { x with so:=s1,sc:=c1,go:=s2,gc:=c2 } (w4.setCell ⟨w.heap.size+1,20,I⟩ (V s2 x.gn c2)):=l.set 20 _ rfl;obtain⟨W5,t⟩:=Ex (w4.setCell ⟨w.heap.size+1,20,I⟩ (V s2 x.gn c2));rw[<-t]at i;have x3:=Bk (Ae i.low a.out an) 21 (V x.po x.pn x.pc) rfl;have k3:=am _ i.low;replace⟨q2,i2,f2,b2,l,i,k3⟩:=H7 q2 i2 f2 b2 l i k3;clear x2;go_upto_region 4 with fail;rw[<-t];have aA:=Hh t;clear t aF aC;go_wp2_with fail;refine k3.mono ?_;rintro e w6 ⟨s3,c3,rfl,o3,b3⟩;have m:=i.next b3;have aG:=Bk m.cp 21 (V x.po x.pn x.pc) rfl;have aD:=Ag m.cp;have d:Lm w { x with so:=s1,sc:=c1,go:=s2,gc:=c2,po:=s3,pc:=c3 } (w6.setCell ⟨w.heap.size+1,21,I⟩ (V s3 x.pn c3)):=m.set 21 _ rfl;obtain⟨W7,u⟩:=Ex (w6.setCell ⟨w.heap.size+1,21,I⟩ (V s3 x.pn c3));rw[<-u]at d
 have b7:∀S:Nat->Prop,S (w.heap.size+1)->Mod S w6 W7:=λS hS=>by rw[u];exact Mod.setCell _ _ _ _ hS
 obtain⟨y,hy⟩:∃y:aq,y={ x with so:=s1,sc:=c1,go:=s2,gc:=c2,po:=s3,pc:=c3 }:=⟨_,rfl⟩;rw[<-hy]at d;have ao:=d.cp;have ac:=d.res;have n:(W7.setRow w.heap.size y.cells).heap[w.heap.size]?=O (J y.cells 46 (0,0)):=Lv _ _ _ _ _ _ ac;have p:=Ps d.low Ln y.cells
 have f:Aj9 w x (Q y.val) (W7.setRow w.heap.size y.cells):=by
  have m3:Mod (Td w.heap.size) w2 W3:=by rw[av.out];exact Mod.setCell _ _ _ _ (.inr rfl)
  have m5:Mod (Td w.heap.size) w4 W5:=by rw[aA.out];exact Mod.setCell _ _ _ _ (.inr rfl)
  have m7:Mod (Td w.heap.size) w6 W7:=b7 _ (.inr rfl);have me:Mod (Td w.heap.size) W7 (W7.setRow w.heap.size y.cells):=Aka _ rfl (.inl rfl);have M6:=m7.trans me;have M4:=(m5.trans (Mod.ag b3)).trans M6;have M2:=(m3.trans (Mod.ag b2.out)).trans M4;have n1:=ap.out;have n3:=m3.size;have n2:=b1.size;have n4:=b2.size;have n5:=m5.size;have j1:=(D1.mod (⟨i1.out,λ_ b o e c=>by obtain⟨_,e2,_⟩:=f1 b o e;rcases c with c|c<;>omega⟩:D1 w2 (Td w.heap.size) s1 x.sn x.pl.sp.after) M2 λ_ _ c=>c).row;have j2:=(D1.mod (⟨i2.out,λ_ b o e c=>by obtain⟨_,e2,_⟩:=f2 b o e;rcases c with c|c<;>omega⟩:D1 w4 (Td w.heap.size) s2 x.gn x.pl.aj) M4 λ_ _ c=>c).row
  have j3:=Yz (A8 o3 M6 λk e c=>by
   obtain⟨_,_,e2⟩:=Cq o3 e
   rcases c with c|c<;>omega) (show w.heap.size<=W5.heap.size by omega)
  refine⟨y,rfl,?_,p⟩;subst hy
  exact⟨rfl,rfl,rfl,rfl,j1,q1.out,λb o e=>by obtain⟨_,e2,_⟩:=f1 b o e;omega,λb o e=>by
    obtain⟨_,e2,_,cc,e4⟩:=f1 b o e
    exact⟨cc,M2.ar e4 (λc=>by rcases c with c|c<;>omega)⟩,j2,q2.out,λb o e=>by obtain⟨_,e2,_⟩:=f2 b o e;omega,λb o e=>by
    obtain⟨_,e2,_,cc,e4⟩:=f2 b o e
    exact⟨cc,M4.ar e4 (λc=>by rcases c with c|c<;>omega)⟩,j3⟩
 replace⟨o3,b3,m,d,b7,hy,ao,ac⟩:=H8 o3 b3 m d b7 hy ao ac;replace⟨n,p,f⟩:=H3 n p f;clear x3;go_upto_region 5 with fail;rw[<-u];clear u aG aD;go_wp2_with (first|(refine Wf rfl 46 _ rfl (w.heap.size+1) rfl 46 y.cells (0,0) _ ao.out Rn rfl J1 ?_)|((refine Mv rfl 46 _ _ rfl w.heap.size y.cells rfl rfl 46 _ ac.out J1 rfl (On y) ?_)));refine An (v:=y.val) ?_ rfl f.out;exact results_cell_row rfl _ _ w.heap.size 46 y.cells (0,0) _ rfl n.out Rn rfl J1
def J2 {B:Nat} {a w:WD} (h:BW B a w) {g o:Nat} {v:VL} (c:B<=g):BW B a (w.setCell ⟨g,o,I⟩ v):=
 ⟨h.os,h.tape,h.output,by have:=h.size;simpa[World.setCell]using this,λk b=>(Ci _ _ _ _ (λe=>by simp at e;omega)).trans (h.block k b)⟩
def Acx {P:Program} {fn:Func} {p t0:Tmp} {a:TypeId} (h:fn.results=#[.cell p a,.tmp t0]) (tmps:Array VL) (w:WD) (g:Nat) (t:TypeId) (cs:Array VL) (fr:Nat×Nat) (d:TypeDesc)
  (i:tmps.getD p undef=K (O ⟨g,0,I⟩)) (e:w.heap[g]?=O (J cs t fr))
  (j:P.underlying a=O d) (c:(match d with | .struct _ | .array _ _=>true|_=>false)=true) (f:(P.info? a).map (·.size)=O cs.size) :
  (results fn tmps).run P w=.ok (D #[.agg cs,tmps.getD t0 undef]) w:=by
 have b:tmps[p]?.getD undef=K (O ⟨g,0,I⟩):=by simpa using i
 simp[results,h,b,asAddr,run_loadVar_row w g t a cs fr d e j c f]
def Y0 (w:WD) (T:Tv) (id:Int) (e:Ending) (w':WD):Prop:=
 BW w.heap.size w w'/\(((id<1\/(T.js.length:Int)<id)/\e=Q (D #[aq.zero.val,Y false]))\/∃(k:Nat) (j:Nat×aq) (y:aq),id=(k:Int)+1/\T.js[k]?=O j/\e=Q (D #[y.val,Y true])/\Ip w w' j.2 y)
def Vf (x:aq):Prop:=x.sn<=1000/\x.gn<=1000/\x.pn<=1000000
def Ip.mod {n w' p:WD} {x y:aq} {S:Nat->Prop} (h:Ip n w' x y) (d:Mod S w' p) (f:∀b,S b->∀a,w'.heap[b]?≠O (J a 3 (0,0))/\w'.heap[b]?≠O (J a 65 (0,0))):Ip n p x y:=by
 obtain⟨a1,a2,a3,q,v,r,t,l,z,s,u,m,g⟩:=h
 have i:∀b o,y.so=O ⟨b,o,I⟩->¬S b:=λb o e c=>by obtain⟨a,h⟩:=l b o e;exact(f b c a).1 h
 have j:∀b o,y.go=O ⟨b,o,I⟩->¬S b:=λb o e c=>by obtain⟨a,h⟩:=m b o e;exact(f b c a).1 h
 refine⟨a1,a2,a3,q,?_,r,t,λb o e=>?_,?_,s,u,λb o e=>?_,A8 g d λk e c=>?_⟩
 .exact (D1.mod (⟨v,λ_ b o e c=>i b o e c⟩:D1 w' S y.so y.sn x.pl.sp.after) d λ_ _ c=>c).row
 .obtain ⟨a,h⟩:=l b o e;exact⟨a,d.ar h (i b o e)⟩
 .exact (D1.mod (⟨z,λ_ b o e c=>j b o e c⟩:D1 w' S y.go y.gn x.pl.aj) d λ_ _ c=>c).row
 .obtain ⟨a,h⟩:=m b o e;exact⟨a,d.ar h (j b o e)⟩
 .obtain ⟨a,h,_⟩:=Cq g e;exact(f k c a).2 h
def Ip.low {b w' d:WD} {x y:aq} (h:Ip b w' x y) (a:BW w'.heap.size w' d):Ip b d x y:=
 h.mod (S:=λ_=>False) ⟨a.os,a.tape,a.output,a.size,λk e _=>a.block k e⟩ λ_ c=>c.elim
def Ip.yo {a w' d:WD} {x y:aq} (h:Ip a w' x y) {g:Nat} {cs:Array VL} (e:w'.heap[g]?=O (J cs 46 (0,0))) (f:Mod (λk=>k=g) w' d):Ip a d x y:=
 h.mod f λb c i=>by
  subst c;rw[e];exact⟨as9,as9⟩
def Ip.mono {c w1 w':WD} {x y:aq} (h:Ip c w' x y) (a:w1.heap.size<=c.heap.size):Ip w1 w' x y:=
 ⟨h.pl,h.sn,h.gn,h.pn,h.after,h.oo,λb o e=>Aw a (h.uk b o e),h.xq,h.aj,h.nf,λb o e=>Aw a (h.um b o e),h.xy,Yz h.parts a⟩
def Axj {w:WD} {T:Tv} (h:Al w T) (l:∀j,j∈T.js->Vf j.2) (id:Int) :
  CS prog 16 #[K (O ⟨T.tb,0,I⟩),Z G id] w (Y0 w T id):=by
 obtain⟨W0,c⟩:=Ex (w.alloc (J Jz 46));have o:BW w.heap.size w W0:=by rw[c];exact Bn
 have ac:=o.size;have ad:w.heap.size<W0.heap.size:=by rw[c];simp
 have n:=h.low o;have q:W0.heap[w.heap.size]?=O (J aq.zero.cells 46 (0,0)):=by rw[c];exact Ah _ _
 obtain⟨m,t⟩:=Ex (T.js.length);obtain⟨tb,ht⟩:=Ex (T.tb)
 obtain⟨so,cap,c4,d⟩:∃so cap,W0.cell? ⟨T.tb,4,I⟩=O (V so T.js.length cap)/\T.js.length<=9223372036854775807:=by
  rcases n.ab.2 with⟨e,h0⟩|⟨g,cap,al,e,_,_,h1,h2,_⟩
  .exact ⟨I,0,by rw[Aa n.head 4,h0,<-e];rfl,ao9⟩
  .exact ⟨_,_,by rw[Aa n.head 4,<-e];rfl,by unfold maxLen at h2;omega⟩
 rw[<-t,<-ht]at c4;rw[<-t]at d;rw[<-ht];by_cases q1:id<1
 .have i:Y0 w T id (Q (D #[aq.zero.val,Y false])) (W0.setRow w.heap.size aq.zero.cells):=⟨Ps o Ln _,.inl ⟨.inl q1,rfl⟩⟩;have a:=Lv W0 w.heap.size _ aq.zero.cells 46 (0,0) q;replace⟨h,l,o,n,q,t,ht,d⟩:=H8 h l o n q t ht d;replace⟨i,a⟩:=H2 i a;go_enter func16,ntmps16;go_upto_region 1 with fail;rw[<-c];clear c;go_wp2_with (refine Mv rfl 46 _ _ rfl w.heap.size aq.zero.cells rfl rfl 46 _ q.out J1 rfl (On aq.zero) ?_);refine An (v:=D #[aq.zero.val,Y false]) ?_ rfl i.out;exact Acx (p:=4) (t0:=5) rfl _ _ w.heap.size 46 aq.zero.cells (0,0) _ rfl a.out Rn rfl J1
 by_cases q2:(m:Int)<id
 .have i:Y0 w T id (Q (D #[aq.zero.val,Y false])) (W0.setRow w.heap.size aq.zero.cells):=⟨Ps o Ln _,.inl ⟨.inr (by rw[<-t];exact q2),rfl⟩⟩;have a:=Lv W0 w.heap.size _ aq.zero.cells 46 (0,0) q;replace⟨h,l,o,n,q,t,ht,d⟩:=H8 h l o n q t ht d;replace⟨i,a⟩:=H2 i a;go_enter func16,ntmps16;go_upto_region 1 with fail;rw[<-c];clear c;go_wp2_with (refine Mv rfl 46 _ _ rfl w.heap.size aq.zero.cells rfl rfl 46 _ q.out J1 rfl (On aq.zero) ?_);refine An (v:=D #[aq.zero.val,Y false]) ?_ rfl i.out;exact Acx (p:=4) (t0:=5) rfl _ _ w.heap.size 46 aq.zero.cells (0,0) _ rfl a.out Rn rfl J1
 obtain⟨k,rfl⟩:∃k:Nat,id=(k:Int)+1:=⟨(id-1).toNat,ao9⟩;have hk:k<T.js.length:=ao9
 obtain⟨j,hj⟩:=Ge T.js k hk;obtain⟨g,af,u,cj,_,_⟩:=n.jf hj;rw[<-t,<-ht]at u;rw[u]at c4;injection c4 with c4;injection c4 with e1 e2 e3;subst e1;subst e3;have c4:=u;clear u e2;have f:=Ai hj;obtain⟨s1,s2,s3⟩:=l j f;have kc:=Akb (n.box j f) (n.ok j f) s1 s2 s3;have an:(k:Int)<m:=ao9
 have am:(0:Int)<=(k:Int):=ao9
 obtain⟨b,x⟩:=j;simp only at cj kc;replace⟨h,l,o,n,q,t,ht,hj⟩:=H8 h l o n q t ht hj;replace⟨f,s1,s2,s3,kc⟩:=H5 f s1 s2 s3 kc;go_enter func16,ntmps16;go_upto_region 1 with fail;rw[<-c];clear c;go_wp2_with fail;refine kc.mono ?_;rintro e w2 ⟨y,rfl,hy,z⟩;have r:=Ae z q.out ad;have a:=Lv w2 w.heap.size _ y.cells 46 (0,0) r
 have s:Y0 w T ((k:Int)+1) (Q (D #[y.val,Y true])) (w2.setRow w.heap.size y.cells):=
  ⟨Ps (o.trans (z.mono ac)) Ln _,.inr ⟨k,_,y,rfl,hj.out,rfl,(hy.yo r (Aka _ rfl rfl)).mono ac⟩⟩
 replace⟨hy,z,r,a,s⟩:=H5 hy z r a s;clear c4 cj;go_wp2_with (refine Mv rfl 46 _ _ rfl w.heap.size y.cells rfl rfl 46 _ r.out J1 rfl (On y) ?_);refine An (v:=D #[y.val,Y true]) ?_ rfl s.out;exact Acx (p:=4) (t0:=5) rfl _ _ w.heap.size 46 y.cells (0,0) _ rfl a.out Rn rfl J1
def Axk:(prog.info? 46).map (λi=>(i.zero,i.size,i.bytes))=O (O aq.zero.val,22,232):=by kernel_rfl
structure Ra (w:WD) (js:List (Nat×aq)) (sv:VL) (L:List aq) (wr:WD):Prop where
 low:BW w.heap.size w wr
 row:wr.ownsRow w.heap.size 46 22 sv L.length (Aq aq.cells L)
 each:∀(i:Nat) (y:aq),L[i]?=O y->∃j:Nat×aq,js[i]?=O j/\Ip w wr j.2 y
def Axl (w:WD) (T:Tv) (e:Ending) (w':WD):Prop:=∃(sv:VL) (L:List aq),e=Q sv/\L.length=T.js.length/\Ra w T.js sv L w'
def Ra.next {w wr f t:WD} {js:List (Nat×aq)} {s v:VL} {L:List aq} {j:Nat×aq} {y:aq} (h:Ra w js s L wr) (hj:js[L.length]?=O j)
  (hy:Ip wr f j.2 y) (m:BW wr.heap.size wr f) (n:t.ownsRow w.heap.size 46 22 v (L.length+1) (Aq aq.cells L++y.cells.toList)) (hg:(f.alloc (J y.cells 46)).grownBy t s.ownBlock) :
  Ra w js v (L++[y]) t:=by
 have d:BW f.heap.size f (f.alloc (J y.cells 46)):=Bn;have g:=A8 (S:=λ_=>False) h.row (Mod.ag m |>.mono λ_ _ c=>c) λ_ _ c=>c;have a:=A8 (S:=λ_=>False) g (Mod.ag d |>.mono λ_ _ c=>c) λ_ _ c=>c;have q:=Mod.grown hg λ_ e=>e
 have u:∀b,s.ownBlock=O b->∀p,(f.alloc (J y.cells 46)).heap[b]?≠O (J p 3 (0,0))/\(f.alloc (J y.cells 46)).heap[b]?≠O (J p 65 (0,0)):=λb e p=>by
  obtain⟨x,hc,_⟩:=Cq a e;rw[hc];exact⟨as9,as9⟩
 have o:=h.low.size;refine⟨(h.low.trans (m.mono o)).trans ?_,?_,λi z l=>?_⟩
 .have:=(d.mono (show w.heap.size<=f.heap.size by have:=m.size;omega));exact this.trans (q.below (by have:=m.size;simp;omega) λk e=>(Cq a e).choose_spec.2)
 .rw [Av,O2,R1];exact n
 .by_cases hi:i<L.length
  .rw [Es hi]at l;obtain⟨j2,e1,e2⟩:=h.each i z l;exact⟨j2,e1,((e2.low m).low d).mod q u⟩
  .rw [Gb ao9]at l;have r:i-L.length=0:=(by have:=(Ap.1 l).1;simp at this;omega);rw[r]at l;simp at l;subst l
   have:i=L.length:=ao9
   subst this;exact⟨j,hj,((hy.low d).mod q u).mono o⟩
def Axm {w:WD} {T:Tv} (h:Al w T) (ac:∀j,j∈T.js->Vf j.2) (ao:T.js.length<=1000) :
  CS prog 20 #[K (O ⟨T.tb,0,I⟩)] w (Axl w T):=by
 obtain⟨i0,hi,af,al,am⟩:=B6 Axk;obtain⟨m,hm⟩:=Ex (T.js.length);obtain⟨tb,ht⟩:=Ex (T.tb)
 obtain⟨so,cap,c4,q⟩:∃so cap,w.cell? ⟨T.tb,4,I⟩=O (V so T.js.length cap)/\T.jv=V so T.js.length cap:=by
  rcases h.ab.2 with⟨e,h0⟩|⟨g,cap,aA,e,_,_,h1,h2,_⟩
  .exact ⟨I,0,by rw[Aa h.head 4,h0,<-e];rfl,by rw[h0,e]⟩
  .exact ⟨_,_,by rw[Aa h.head 4,<-e];rfl,e⟩
 rw[<-hm,<-ht]at c4;rw[<-hm]at ao q;rw[<-ht];have t:Ra w T.js (V I 0 0) [] w:=⟨Below.refl _ _,Mu _ _ _ _,λi y e=>by simp at e⟩;replace⟨h,ac,hm,ht,q,t,hi,af⟩:=H8 h ac hm ht q t hi af;replace⟨al,am⟩:=H2 al am;go_enter func20,ntmps20;go_wp2_with fail;clear c4;go_loopw [3,5,14] (λs0 _ iv wr=>∃(k:Nat) (L:List aq) (sv:VL),sv=s0/\iv=Z G k/\k<=m/\Hid (L.length=k)/\Hid (Ra w T.js sv L wr)) (λ_ _ iv _=>m-(intOf iv).toNat)
 case atStart=>exact⟨0,[],_,rfl,rfl,Ar _,rfl,t.out⟩
 case round=>
  obtain⟨k,L,sv,rfl,rfl,aC,hL,hG⟩:=hrel;by_cases hc:k<m
  .have an:(k:Int)<m:=ao9;have aB:(0:Int)<=(k:Int):=ao9;have hA:=h.low hG.low;obtain⟨j,hj⟩:=Ge T.js k (by have:=hm.out;omega);obtain⟨g,av,_,cj,_,ad⟩:=hA.jf hj;have e1:so=O ⟨g,0,I⟩:=(by have:=q.symm.trans ad;injection this);subst e1;have a:=Ai hj;obtain⟨s1,s2,s3⟩:=ac j a;have kc:=Akb (hA.box j a) (hA.ok j a) s1 s2 s3;obtain⟨b,x⟩:=j;simp only at cj kc;replace⟨hA,hj,ad,a,s1,s2,s3,kc⟩:=H8 hA hj ad a s1 s2 s3 kc;go_wp2_with fail;refine kc.mono ?_;rintro e w2 ⟨y,rfl,hy,l⟩;have aD:=hG.low.size;have aE:=l.size
   have p:(w2.alloc (J y.cells 46)).ownsRow w.heap.size 46 22 sv k (Aq aq.cells L):=by have r:=hG.row;rw[hL.out]at r;exact A8 (S:=λ_=>False) (A8 (S:=λ_=>False) r (Mod.ag l |>.mono λ_ _ c=>c) λ_ _ c=>c) (Mod.ag Bn |>.mono λ_ _ c=>c) λ_ _ c=>c
   have z:∀i u,y.cells.toList[i]?=O u->(w2.alloc (J y.cells 46)).cell? ((⟨w2.heap.size,0,I⟩:Addr).add i)=O u:=λi u hu=>by
    rw[show((⟨w2.heap.size,0,I⟩:Addr).add i)=⟨w2.heap.size,i,I⟩ by unfold Addr.add;split<;>simp_all,Aa (Ah _ _) i,<-hu];simp
   have o:∀u∈y.cells.toList,u.oneCell'=true:=λu hu=>Array.all_eq_true_iff_forall_mem.1 (On y) u (by simpa using hu);clear cj;replace⟨hy,l,p,z,o⟩:=H5 hy l p z o;go_wp2_with (at_builtin;refine J6 _ rfl _ _ 57 rfl w.heap.size 46 i0 aq.zero.val 22 232 underlying57 hi.out af.out al.out am.out rfl ad9 _ k _ rfl p.out ⟨w2.heap.size,0,I⟩ 1 1 y.cells.toList rfl rfl z.out o.out ?c3 ?c4 ?c5 ?c6)
   case c3=>
    have mx:maxLen=9223372036854775807:=(by kernel_rfl);omega
   case c4=>omega
   case c5=>simp;omega
   case c6=>
    intro v' w3 f d s;have v:=hG.next (by rw[hL.out];exact hj.out) hy.out l.out (by rw[hL.out];exact f) d;have n:(L++[y]).length=k+1:=(by rw[Av,hL.out];rfl);replace⟨f,d,s,v,n⟩:=H5 f d s v n;go_wp2;go_roundw
    case rel=>exact⟨k+1,L++[y],_,rfl,by go_num,ao9,n.out,v.out⟩
    case measure=>simp[intOf];omega
  .have an:¬(k:Int)<m:=ao9;have ap:k=m:=ao9;subst ap;go_wp2;go_ret;exact⟨_,L,rfl,by rw[hL.out,hm.out],hG.out⟩
def Akc (u v:V4):V4:=⟨u.a+v.a,u.b+v.b,u.c+v.c,u.d+v.d⟩
def Rb (d:Nat) (u v:V4):V4:=⟨if 0<d then u.a+v.a else u.a,if 1<d then u.b+v.b else u.b,if 2<d then u.c+v.c else u.c,if 3<d then u.d+v.d else u.d⟩
def J3 (i:Int) (j:Jb) (n:Nat) (v:V4):V4:=((j.parts.take n).filter λp=>decide (p.1=i) && decide (p.2=0)).foldl (λv _=>Akc v j.sp.df) v
def Axn (i:Int) (j:Jb) (v:V4):J3 i j 0 v=v:=rfl
def Axo {i:Int} {j:Jb} {n:Nat} {v:V4} {p:Int×Int} (a:j.parts[n]?=O p):J3 i j (n+1) v=if (decide (p.1=i) && decide (p.2=0))=true then Akc (J3 i j n v) j.sp.df else J3 i j n v:=by
 unfold J3;rw[Mt,a,Ow,N1];simp only[Option.toList_some];by_cases q:(decide (p.1=i) && decide (p.2=0))=true
 .rw [Ad q,List.filter_cons,Ad q];rfl
 .rw [Ab q,List.filter_cons,Ab q];rfl
def Axp (i:Int) (j:Jb) (v:V4):J3 i j j.parts.length v=Xn i j v:=by
 unfold J3 Xn;rw[Oy];rfl
def uz (v:V4) (m:Int):Prop:=0<=v.a/\v.a<=m/\0<=v.b/\v.b<=m/\0<=v.c/\v.c<=m/\0<=v.d/\v.d<=m
def Akd (x:aq):Prop:=uz x.pl.sp.df 1099511627776/\x.pn<=1000
structure G8 (w:WD) (v:V4) (wr:WD):Prop where
 low:BW w.heap.size w wr
 res:wr.heap[w.heap.size]?=O (J V4.zero.cells 30 (0,0))
 vec:wr.heap[w.heap.size+1]?=O (J v.cells 30 (0,0))
def G8.next {w wr w':WD} {v:V4} (h:G8 w v wr) (a:BW wr.heap.size wr w'):G8 w v w':=
 ⟨h.low.trans (a.mono h.low.size),Ae a h.res (Ac h.res),Ae a h.vec (Ac h.vec)⟩
def G8.set {w wr:WD} {v u:V4} (h:G8 w v wr) (o:Nat) (x:VL) (e:v.cells.setIfInBounds o x=u.cells):G8 w u (wr.setCell ⟨w.heap.size+1,o,I⟩ x):=
 ⟨J2 h.low ao9,(Ci _ _ _ _ (λe=>by simp at e)).trans h.res,by rw[<-e];exact Am h.vec _ _⟩
def G8.new (w:WD):G8 w V4.zero ((w.alloc (J V4.zero.cells 30)).alloc (J V4.zero.cells 30)):=
 ⟨Bn.alloc as9 _,Ak _ (Ah _ _),A2 _ _ as9⟩
def Pt (i:Int) (js:List Jb) (k:Nat):V4:=(js.take k).foldl (λv j=>Xn i j v) ⟨0,0,0,0⟩
def Y1 {P:Program} {b:Array Oper} {rest:List Oper} {o:Oper} {a:Act} {w:WD} {Q9q:Exit->Act->WD->Prop} (c:o.guard=I) (t:TypeId) (x d:Operand) (f:o.op=.index t x d) (v:VL)
  (g:(Instr.index t (a.eval x) (a.eval d)).run P w=.ok v w) (h:wpList P b Q9q rest (a.put o.dst v) w):wpList P b Q9q (o :: rest) a w:=
 wpList_plain c λ_ e=>by
  unfold Oper.wp execOp;simp only[f,g,Sem.run_bind,Sem.run_pure,Result.andThen_ok];exact e _ _ h
def zv (a b c d:Int) (w:WD):(Instr.index 30 (.agg #[Z G a,Z G b,Z G c,Z G d]) (Z G 0)).run prog w=.ok (Z G a) w:=by kernel_rfl
def zw (a b c d:Int) (w:WD):(Instr.index 30 (.agg #[Z G a,Z G b,Z G c,Z G d]) (Z G 1)).run prog w=.ok (Z G b) w:=by kernel_rfl
def zx (a b c d:Int) (w:WD):(Instr.index 30 (.agg #[Z G a,Z G b,Z G c,Z G d]) (Z G 2)).run prog w=.ok (Z G c) w:=by kernel_rfl
def zy (a b c d:Int) (w:WD):(Instr.index 30 (.agg #[Z G a,Z G b,Z G c,Z G d]) (Z G 3)).run prog w=.ok (Z G d) w:=by kernel_rfl
def Axq {w:WD} {T:Tv} (h:Al w T) (hd:∀j,j∈T.js->Akd j.2) (a1:T.js.length<=1000) (node:Int) :
  CS prog 17 #[K (O ⟨T.tb,0,I⟩),Z G node] w λe w'=>e=Q (Ub T.pl.ab node).val/\BW w.heap.size w w':=by
 obtain⟨m,hm⟩:=Ex (T.js.length);obtain⟨tb,ht⟩:=Ex (T.tb);have af:=G8.new w;obtain⟨W0,aI⟩:=Ex ((w.alloc (J #[Z G 0,Z G 0,Z G 0,Z G 0] 30)).alloc (J #[Z G 0,Z G 0,Z G 0,Z G 0] 30));have af:G8 w V4.zero W0:=by rw[aI];exact af
 have ap:=h.low af.low
 obtain⟨so,cap,c4,aF⟩:∃so cap,W0.cell? ⟨T.tb,4,I⟩=O (V so T.js.length cap)/\T.jv=V so T.js.length cap:=by
  rcases ap.ab.2 with⟨e,h0⟩|⟨g,cap,bd,e,_,_,h1,h2,_⟩
  .exact ⟨I,0,by rw[Aa ap.head 4,h0,<-e];rfl,by rw[h0,e]⟩
  .exact ⟨_,_,by rw[Aa ap.head 4,<-e];rfl,e⟩
 rw[<-hm,<-ht]at c4;rw[<-hm]at a1 aF;rw[<-ht];replace⟨h,hd,hm,ht,aF,af,ap⟩:=H7 h hd hm ht aF af ap;go_enter func17,ntmps17;go_upto_region 2 with fail;rw[<-aI];clear aI;go_wp2_with fail;clear c4;go_loopw [7,9,10,11,21,30,48] (λ_ _ _ _ iv _ _ wr=>∃(k:Nat),iv=Z G k/\k<=m/\Hid (G8 w (Pt node T.pl.ab k) wr)/\Hid (uz (Pt node T.pl.ab k) (1099511627776*(1000*(k:Int))))) (λ_ _ _ _ iv _ _ _=>m-(intOf iv).toNat)
 case atStart=>exact⟨0,rfl,Ar _,af.out,Hh (by simp[Pt,uz])⟩
 case round=>
  obtain⟨k,rfl,bi,t,aM⟩:=hrel;by_cases hc:k<m
  .have aX:(k:Int)<m:=ao9;have bg:(0:Int)<=(k:Int):=ao9;have hA:=h.low t.low;obtain⟨j,hj⟩:=Ge T.js k (by have:=hm.out;omega);obtain⟨g,a4,_,cj,_,aL⟩:=hA.jf hj;have e1:so=O ⟨g,0,I⟩:=(by have:=aF.symm.trans aL;injection this);subst e1;have r:=Ai hj;obtain⟨q,aN⟩:=hd j r;obtain⟨b,x⟩:=j;have aK:T.pl.ab[k]?=O x.pl:=(by simp[Tv.pl,hj]);have z:∀W,BW w.heap.size w W->Ba W b x:=λW hW=>(h.low hW).box _ r;have ad:∀W,BW w.heap.size w W->Bo W x:=λW hW=>((h.low hW).ok _ r).parts;have ac:=I9 (ad w (Below.refl _ _));obtain⟨A,aD⟩:=Ex (Pt node T.pl.ab k);have aC:Pt node T.pl.ab (k+1)=J3 node x.pl x.pn A:=(by rw[<-ac,Axp,aD];unfold Pt;rw[Mt,aK,N1];rfl);rw[<-aD]at t aM;have aA:=z _ t.low;simp only at cj q aN;have aO:=Bk aA 21 (V x.po x.pn x.pc) rfl;obtain⟨⟨da,db,dc,dd⟩,o⟩:∃d,d=x.pl.sp.df:=⟨_,rfl⟩;rw[<-o]at q;obtain⟨po,aG⟩:=Ex (x.po);obtain⟨pn,s⟩:=Ex (x.pn);rw[<-aG,<-s]at aO;rw[<-s]at aN ac aC;replace⟨hA,hj,aL,r,q,aK,z,ad⟩:=H8 hA hj aL r q aK z ad;replace⟨ac,aD,aC,aA,o,aG,s⟩:=H7 ac aD aC aA o aG s;go_wp2_with fail;clear cj aO;go_loopw [9,10,11,30,48] (λ_ _ _ iv _ wr=>∃(n:Nat),iv=Z G n/\n<=pn/\Hid (G8 w (J3 node x.pl n A) wr)/\Hid (uz (J3 node x.pl n A) (1099511627776*(1000*(k:Int)+n)))) (λ_ _ _ iv _ _=>pn-(intOf iv).toNat)
   case atStart=>exact⟨0,rfl,Ar _,t.out,Hh (by have:=aM.out;rw[Axn];simpa using this)⟩
   case round=>
    obtain⟨n,rfl,bl,al,av⟩:=hrel;by_cases aY:n<pn
    .have aZ:(n:Int)<pn:=ao9;have bk:(0:Int)<=(n:Int):=ao9;obtain⟨pb,p,e,hp,c0,c1⟩:=Pb (ad _ al.low) (k:=n) (by rw[<-s.out];exact aY);have e2:=aG.trans e;subst e2;obtain⟨p1,p2⟩:=p;simp only at c0 c1;have ao:=Axo (i:=node) (v:=A) hp;obtain⟨u,hu⟩:=Ex (J3 node x.pl n A);rw[<-hu]at al av ao;obtain⟨W3,aE⟩:=Ex (wr.alloc (J #[Z G p1,Z G p2] 65));have aJ:BW wr.heap.size wr W3:=(by rw[aE];exact Bn);have am:=al.next aJ;have aH:W3.heap[wr.heap.size]?=O (J #[Z G p1,Z G p2] 65 (0,0)):=(by rw[aE];exact Ah _ _);have x0:=Bk aH 0 (Z G p1) rfl;have x1:=Bk aH 1 (Z G p2) rfl;have an:=z _ am.low;have d4:W3.cell? ⟨b,4,I⟩=O (Z G da):=(by rw[Aa an 4,show da=x.pl.sp.df.a by rw[<-o.out]];rfl);have d5:W3.cell? ⟨b,5,I⟩=O (Z G db):=(by rw[Aa an 5,show db=x.pl.sp.df.b by rw[<-o.out]];rfl);have d6:W3.cell? ⟨b,6,I⟩=O (Z G dc):=(by rw[Aa an 6,show dc=x.pl.sp.df.c by rw[<-o.out]];rfl);have d7:W3.cell? ⟨b,7,I⟩=O (Z G dd):=(by rw[Aa an 7,show dd=x.pl.sp.df.d by rw[<-o.out]];rfl);replace⟨hp,e,ao,hu,aJ,am,aH,an⟩:=H8 hp e ao hu aJ am aH an;replace al:=Hh al;go_upto_region 10 with fail;rw[<-aE];clear aE c0 c1;obtain⟨a5,a6,a7,a8,a9,ba,bb,bc⟩:=av.out;obtain⟨aP,aQ,aR,aS,aT,aU,aV,aW⟩:=q.out;simp only at aP aQ aR aS aT aU aV aW;by_cases q1:p1=node
     .by_cases q2:p2=0
      .subst q1;subst q2;have f:J3 p1 x.pl (n+1) A=Rb 4 u ⟨da,db,dc,dd⟩:=(by rw[ao.out,<-o.out,Ad as9];rfl);replace f:=Hh f;go_wp2_with fail;clear x0 x1 d4 d5 d6 d7;go_loopw [10,11,48] (λ_ _ iv wr=>∃(d:Nat),iv=Z G d/\d<=4/\Hid (G8 w (Rb d u ⟨da,db,dc,dd⟩) wr)) (λ_ _ iv _=>4-(intOf iv).toNat)
       case atStart=>exact⟨0,rfl,ao9,am.out⟩
       case round=>
        obtain⟨d,rfl,bf,l⟩:=hrel;by_cases be:d<4
        .rcases (by omega:d=0\/d=1\/d=2\/d=3)with rfl|rfl|rfl|rfl
         .have u0:=Bk l.vec 0 (Z G u.a) rfl;have fr:=Ag l.vec;have y:G8 w (Rb 1 u ⟨da,db,dc,dd⟩) (wr.setCell ⟨w.heap.size+1,0,I⟩ (Z G (u.a+da))):=l.set 0 _ rfl;replace y:=Hh y;go_wp2_with (refine Y1 rfl _ _ _ rfl _ (zv _ _ _ _ _) ?_);go_roundw
          case rel=>exact⟨1,rfl,ao9,y⟩
          case measure=>simp[intOf]
         .have u1:=Bk l.vec 1 (Z G u.b) rfl;have fr:=Ag l.vec;have y:G8 w (Rb 2 u ⟨da,db,dc,dd⟩) (wr.setCell ⟨w.heap.size+1,1,I⟩ (Z G (u.b+db))):=l.set 1 _ rfl;replace y:=Hh y;go_wp2_with (refine Y1 rfl _ _ _ rfl _ (zw _ _ _ _ _) ?_);go_roundw
          case rel=>exact⟨2,rfl,ao9,y⟩
          case measure=>simp[intOf]
         .have u2:=Bk l.vec 2 (Z G u.c) rfl;have fr:=Ag l.vec;have y:G8 w (Rb 3 u ⟨da,db,dc,dd⟩) (wr.setCell ⟨w.heap.size+1,2,I⟩ (Z G (u.c+dc))):=l.set 2 _ rfl;replace y:=Hh y;go_wp2_with (refine Y1 rfl _ _ _ rfl _ (zx _ _ _ _ _) ?_);go_roundw
          case rel=>exact⟨3,rfl,ao9,y⟩
          case measure=>simp[intOf]
         .have u3:=Bk l.vec 3 (Z G u.d) rfl;have fr:=Ag l.vec;have y:G8 w (Rb 4 u ⟨da,db,dc,dd⟩) (wr.setCell ⟨w.heap.size+1,3,I⟩ (Z G (u.d+dd))):=l.set 3 _ rfl;replace y:=Hh y;go_wp2_with (refine Y1 rfl _ _ _ rfl _ (zy _ _ _ _ _) ?_);go_roundw
          case rel=>exact⟨4,rfl,ao9,y⟩
          case measure=>simp[intOf]
        .have a0:d=4:=ao9;subst a0;go_wp2;go_roundw
         case rel=>exact⟨n+1,by go_num,ao9,Hh (by rw[f.out];exact l.out),Hh (by rw[f.out];refine⟨?_,?_,?_,?_,?_,?_,?_,?_⟩<;>simp[Rb]<;>omega)⟩
         case measure=>simp[intOf];omega
      .clear d4 d5 d6 d7;have f:J3 node x.pl (n+1) A=u:=(by rw[ao.out,Ab (by simp;omega)]);replace f:=Hh f;go_wp2;go_roundw
       case rel=>exact⟨n+1,by go_num,ao9,Hh (by rw[f.out];exact am.out),Hh (by rw[f.out];refine⟨?_,?_,?_,?_,?_,?_,?_,?_⟩<;>omega)⟩
       case measure=>simp[intOf];omega
     .clear d4 d5 d6 d7;have f:J3 node x.pl (n+1) A=u:=(by rw[ao.out,Ab (by simp;omega)]);replace f:=Hh f;go_wp2;go_roundw
      case rel=>exact⟨n+1,by go_num,ao9,Hh (by rw[f.out];exact am.out),Hh (by rw[f.out];refine⟨?_,?_,?_,?_,?_,?_,?_,?_⟩<;>omega)⟩
      case measure=>simp[intOf];omega
    .have aZ:¬(n:Int)<pn:=ao9;have a3:n=pn:=ao9;subst a3;go_wp2;go_roundw
     case rel=>exact⟨k+1,by go_num,ao9,Hh (by rw[aC.out];exact al.out),Hh (by rw[aC.out];obtain⟨b1,b2,b3,b4,b5,b6,b7,b8⟩:=av.out;refine⟨b1,?_,b3,?_,b5,?_,b7,?_⟩<;>omega)⟩
     case measure=>simp[intOf];omega
  .have aX:¬(k:Int)<m:=ao9;have a2:k=m:=ao9;subst a2;obtain⟨u,hu⟩:=Ex (Pt node T.pl.ab k);have aB:u=Ub T.pl.ab node:=(by rw[hu];unfold Pt Ub;rw[Dd (by simp[Tv.pl];have:=hm.out;omega)]);rw[<-hu]at t;have u0:=Bk t.vec 0 (Z G u.a) rfl;have u1:=Bk t.vec 1 (Z G u.b) rfl;have u2:=Bk t.vec 2 (Z G u.c) rfl;have u3:=Bk t.vec 3 (Z G u.d) rfl;have r0:=Bk t.res 0 (Z G 0) rfl;have r1:=Bk t.res 1 (Z G 0) rfl;have r2:=Bk t.res 2 (Z G 0) rfl;have r3:=Bk t.res 3 (Z G 0) rfl;have fr:=Ag t.res;replace⟨hu,aB⟩:=H2 hu aB;go_wp2;refine An (v:=u.val) (by simp[results,results17,go_sem,r0,r1,r2,r3]) rfl ⟨by rw[aB.out],?_⟩;exact J2 (J2 (J2 (J2 t.low Ln) Ln) Ln) Ln
def oy:Ej:=⟨false,false,-1⟩
structure J4 (w:WD) (fb:Nat) (vs:List ay) (kn kc:Nat) (cv nv:VL) (wr:WD):Prop where
 low:BW w.heap.size w wr
 head:wr.heap[w.heap.size]?=O (J #[Z G 0,Z G (-1),.map (O (w.heap.size+1)),nv,V I 0 0,K (O ⟨fb,0,I⟩),cv] 115 (0,0))
 map:wr.heap[w.heap.size+1]?=O (.map #[] 0)
 nodes:wr.ownsRow (w.heap.size+2) 119 3 nv kn (Aq E2 (List.replicate kn oy))
 az:wr.ownsRow (w.heap.size+2) 30 4 cv kc (Aq V4.cells ((vs.take kc).map ay.cap))
def Nt {w:WD} {B size n b:Nat} {T:TypeId} {v:VL} {xs:List VL} (h:w.ownsRow B T size v n xs) (a:v.ownBlock=O b):B<=b:=(Cq h a).choose_spec.2
variable {w wr w2 w9:WD} {fb k:Nat} {vs:List ay} {cv nv v9:VL} {v:ay}
def J4.next {d b:Nat} (h:J4 w fb vs d b cv nv wr) (a:BW wr.heap.size wr w2):J4 w fb vs d b cv nv w2:=
 ⟨h.low.trans (a.mono h.low.size),Ae a h.head (Ac h.head),Ae a h.map (Ac h.map),
  A8 (S:=λ_=>False) h.nodes ((Mod.ag a).mono λ_ _ c=>c) λ_ _ c=>c,A8 (S:=λ_=>False) h.az ((Mod.ag a).mono λ_ _ c=>c) λ_ _ c=>c⟩
def J4.cap (h:J4 w fb vs k k cv nv wr) (q:vs[k]?=O v) (a:w9.ownsRow (w.heap.size+2) 30 4 v9 (k+1) (Aq V4.cells ((vs.take k).map ay.cap)++v.cap.cells.toList))
  (n:wr.grownBy w9 cv.ownBlock):J4 w fb vs k (k+1) v9 nv (w9.setCell ⟨w.heap.size,6,I⟩ v9):=by
 have f:=Mod.grown n λ_ e=>e;have d:∀b,cv.ownBlock=O b->w.heap.size+2<=b:=λb e=>Nt h.az e
 have o:=f.ar h.head λe=>by have:=d _ e;omega
 have p:=f.ar h.map λe=>by have:=d _ e;omega
 have i:=A8 h.nodes f λb e c=>by
  obtain⟨j,m,_⟩:=Cq h.az c;exact Bx h.nodes m ad9 e
 have g:Mod (λb=>b=w.heap.size) w9 (w9.setCell ⟨w.heap.size,6,I⟩ v9):=Mod.setCell _ _ _ _ rfl;refine⟨J2 (h.low.trans (f.below h.low.size λb e=>by have:=d b e;omega)) Ln,Am o 6 v9,g.ar p ao9,A8 i g λb e c=>?_,?_⟩
 .have:=Nt i e;omega
 .have l:=A8 a g λb e c=>by have:=Nt a e;omega
  rw[Mt,q,Dw,O2];simpa[Aq]using l
def J4.node (h:J4 w fb vs k (k+1) cv nv wr) (a:w9.ownsRow (w.heap.size+2) 119 3 v9 (k+1) (Aq E2 (List.replicate k oy)++(E2 oy).toList))
  (n:wr.grownBy w9 nv.ownBlock):J4 w fb vs (k+1) (k+1) cv v9 (w9.setCell ⟨w.heap.size,3,I⟩ v9):=by
 have f:=Mod.grown n λ_ e=>e;have d:∀b,nv.ownBlock=O b->w.heap.size+2<=b:=λb e=>Nt h.nodes e
 have o:=f.ar h.head λe=>by have:=d _ e;omega
 have p:=f.ar h.map λe=>by have:=d _ e;omega
 have i:=A8 h.az f λb e c=>by
  obtain⟨j,m,_⟩:=Cq h.nodes c;exact Bx h.az m ad9 e
 have g:Mod (λb=>b=w.heap.size) w9 (w9.setCell ⟨w.heap.size,3,I⟩ v9):=Mod.setCell _ _ _ _ rfl;refine⟨J2 (h.low.trans (f.below h.low.size λb e=>by have:=d b e;omega)) Ln,Am o 3 v9,g.ar p ao9,?_,A8 i g λb e c=>?_⟩
 .have l:=A8 a g λb e c=>by have:=Nt a e;omega
  rw[List.replicate_succ',O2];simpa[Aq]using l
 .have:=Nt i e;omega
structure Axr (w:WD) (fb:Nat) (vs:List ay) (k:Nat) (nv:VL) (wx:WD):Prop where
 ex:∃cv,J4 w fb vs k (k+1) cv nv wx
def Axs:(prog.info? 30).map (λi=>(i.zero,i.size,i.bytes))=O (O V4.zero.val,4,32):=by kernel_rfl
def Axt:(prog.info? 119).map (λi=>(i.zero,i.size,i.bytes))=O (O (.agg #[Y false,Y false,Z G 0]),3,16):=by kernel_rfl
def Ake {W:WD} {cs:Array VL} {T:TypeId}:∀j u,cs.toList[j]?=O u->((W.alloc (J cs T)).drew).cell? ((⟨W.heap.size,0,I⟩:Addr).add j)=O u:=λi u a=>by
 rw[show((⟨W.heap.size,0,I⟩:Addr).add i)=⟨W.heap.size,i,I⟩ by unfold Addr.add;split<;>simp_all,Aa (w:=(W.alloc (J cs T)).drew) (Ah W (J cs T)) i,<-a];simp
def Axu {w:WD} {b:Nat} (h:w.heap[b]?=O (.map #[] 0)):K7 w b []:=by
 obtain⟨d,c,a,rest⟩:=Zr (H:=Unit) w prog 3 O8;rw[Ah]at a;injection a with a;injection a with e1 e2;subst e1;subst e2;exact⟨#[],0,h,rest⟩
def Abs (w:WD) (fb fm fl:Nat) (vs:List ay) (e:Ending) (w':WD):Prop:=
 ∃T:Tv,e=Q (K (O ⟨T.tb,0,I⟩))/\Al w' T/\BW w.heap.size w w'/\(∀b,T.bh b->w.heap.size<=b)/\T.fb=fb/\T.fm=fm/\T.fl=fl/\T.vs=vs/\T.pl=⟨0,-1,[],List.replicate vs.length oy,[]⟩
def Abt {w:WD} {fb fm fl:Nat} {vs:List ay} (hf:lg w fb fm fl vs) (av:Kd vs):CS prog 14 #[K (O ⟨fb,0,I⟩)] w (Abs w fb fm fl vs):=by
 have aG:=λ(W:WD) (hW:BW w.heap.size w W)=>Aet (hf.below hW);have aP:=λ(W:WD) (hW:BW w.heap.size w W) (i:Int)=>Ae1 (hf.below hW) av i;obtain⟨m,hm⟩:=Ex (vs.length);have aZ:=@run_makeMap prog;rw[<-hm]at aG;have a3:m<=16:=by rw[hm];exact av.len
 replace⟨hf,av,aG,aP,hm⟩:=H5 hf av aG aP hm;go_enter func14,ntmps14;go_upto_region 6 with fail;obtain⟨W0,aJ⟩:=Ex ((w.alloc (J #[Z G 0,Z G (-1),.map (O (w.heap.size+1)),V I 0 0,V I 0 0,K (O ⟨fb,0,I⟩),V I 0 0] 115)).alloc (.map #[] 0));have aC:J4 w fb vs 0 0 (V I 0 0) (V I 0 0) W0:=by rw[aJ];exact⟨Bn.alloc as9 _,Ak _ (Ah _ _),A2 _ _ as9,Mu _ _ _ _,Mu _ _ _ _⟩
 rw[<-aJ];clear aJ aZ;replace aC:=Hh aC;go_wp2_with fail;refine(aG _ aC.low).mono ?_;rintro e w1 ⟨rfl,rfl⟩;go_wp2_with fail;go_loopw [4,5,6,23] (λ_ _ _ iv wr=>∃(k:Nat) (cv nv:VL),iv=Z G k/\k<=m/\Hid (J4 w fb vs k k cv nv wr)) (λ_ _ _ iv _=>m-(intOf iv).toNat)
 case atStart=>exact⟨0,_,_,rfl,Ar _,aC⟩
 case round=>
  obtain⟨k,cv,nv,rfl,a5,hN⟩:=hrel;by_cases hc:k<m
  .have aX:(k:Int)<m:=ao9;have aQ:=aP _ hN.low (k:Int);replace aQ:=Hh aQ;go_wp2_with fail;refine aQ.mono ?_;rintro e w2 ⟨x,bb,rfl,hx,aK,_,ap⟩
   have hv:vs[k]?=O x.pl:=by
    rcases ap with⟨_,_,h⟩|⟨_,_,h⟩
    .simpa using h
    .have:=hm.out;omega
   clear ap;replace⟨hx,aK,hv⟩:=H3 hx aK hv;go_upto_region 10 with fail;obtain⟨W3,aE⟩:=Ex (w2.alloc (J x.cells 69));have aL:BW w2.heap.size w2 W3:=(by rw[aE];exact Bn);have am:=(hN.next aK.out).next aL;have af:W3.heap[w2.heap.size]?=O (J x.cells 69 (0,0)):=(by rw[aE];exact Ah _ _);have f6:=Bk am.head 6 cv rfl;have f3:=Bk am.head 3 nv rfl;have y1:=Bk af 1 (Z G x.cap.a) rfl;have y2:=Bk af 2 (Z G x.cap.b) rfl;have y3:=Bk af 3 (Z G x.cap.c) rfl;have y4:=Bk af 4 (Z G x.cap.d) rfl;obtain⟨bx,aM⟩:=Ex (w2.heap.size);have a6:=Ac am.head;rw[<-aE];rw[<-aM]at af y1 y2 y3 y4 ⊢;have r:J4 w fb vs k k cv nv ((W3.alloc (J x.cap.cells 30)).drew):=(am.next Bn).next ⟨rfl,rfl,rfl,Nat.le_refl _,λ_ _=>rfl⟩;have ad:=r.az;have y:=Ake (W:=W3) (cs:=x.cap.cells) (T:=30)
   have aA:∀u∈x.cap.cells.toList,u.oneCell'=true:=by intro u hu;simp at hu;rcases hu with rfl|rfl|rfl|rfl<;>rfl
   have aB:=Gh (n:=k) ao9;have aN:(k+1)*32<=140737488355328:=ao9;have an:w.heap.size+2<=((W3.alloc (J x.cap.cells 30)).drew).heap.size:=Ac r.map
   have t:∀w9:WD,((W3.alloc (J x.cap.cells 30)).drew).grownBy w9 cv.ownBlock->w9.heap[w.heap.size]?=O (J #[Z G 0,Z G (-1),.map (O (w.heap.size+1)),nv,V I 0 0,K (O ⟨fb,0,I⟩),cv] 115 (0,0)):=λw9 hg=>
    (hg.block _ (Ac r.head) (λe=>by have:=Nt r.az e.symm;omega)).trans r.head
   obtain⟨a0,aT,aU,aR,aS⟩:=B6 Axs;replace⟨aL,am,af,r,ad,y,aA,aB⟩:=H8 aL am af r ad y aA aB;replace⟨aN,an,t,aM⟩:=H4 aN an t aM;clear aE;go_cut [] (λwx=>Axr w fb vs k nv wx)
   case first=>
    go_region_law
     (first
       | (refine T5 (by rfl) _ _ _ (by rfl) (w.heap.size+2) 30 a0 _ 4 32 underlying113 aT aU aR aS rfl ad9 cv k _ (by rfl) ad.out ⟨W3.heap.size,0,I⟩ 1 x.cap.cells.toList (by rfl) (by rfl) y.out aA.out aB.out aN.out an.out ?_;intro g9 a2 w9 g f;have q9:=t w9 f;have f9:=Aa q9 6;have z9:=Ag q9 6;simp at f9
          replace⟨q9,g,f⟩:=H3 q9 g f))
    all_goals
     go_wp2_with fail;go_meet;exact⟨_,r.cap hv.out g.out f.out⟩
   case rest=>
    obtain⟨aW,aD⟩:=hcut.ex;clear hcut f6 f3 y1 y2 y3 y4;have f3:=Bk aD.head 3 nv rfl;have q:J4 w fb vs k (k+1) aW nv (wc.alloc (J #[Y false,Y false,Z G (-1)] 119)):=aD.next Bn;have ac:=q.nodes;have l:∀j u,(E2 oy).toList[j]?=O u->(wc.alloc (J #[Y false,Y false,Z G (-1)] 119)).cell? ((⟨wc.heap.size,0,I⟩:Addr).add j)=O u:=Ake (W:=wc) (cs:=E2 oy) (T:=119)
    have z:∀u∈(E2 oy).toList,u.oneCell'=true:=by intro u hu;simp at hu;rcases hu with rfl|rfl|rfl<;>rfl
    have ao:(k+1)*16<=140737488355328:=ao9;have s:w.heap.size+2<=(wc.alloc (J #[Y false,Y false,Z G (-1)] 119)).heap.size:=Ac q.map;obtain⟨aV,v,al,o,p⟩:=B6 Axt;replace⟨aD,q,ac,l,z,ao,s,v⟩:=H8 aD q ac l z ao s v;replace⟨al,o,p⟩:=H3 al o p;go_wp2_with (at_builtin;refine J6 _ rfl _ _ 109 rfl (w.heap.size+2) 119 aV _ 3 16 underlying109 v.out al.out o.out p.out rfl ad9 _ k _ rfl ac.out ⟨wc.heap.size,0,I⟩ 1 1 (E2 oy).toList rfl rfl l.out z.out aB.out ao.out s.out ?c6)
    case c6=>
     intro v' w9 g f aH;obtain⟨g5,a1,rfl⟩:=Joins.ownsRow_form g ao9
     have aF:=
      (f.block _ (Ac q.head) (λe=>by have:=Nt q.nodes e.symm;omega)).trans q.head
     have z9:=Bk aF 3 nv rfl;have a4:=Ag aF;have aI:=q.node g f;clear f3;replace⟨g,f,aH,aF,aI⟩:=H5 g f aH aF aI;go_wp2;go_roundw
     case rel=>exact⟨k+1,_,_,by go_num,ao9,aI⟩
     case measure=>simp[intOf];omega
  .have aX:¬(k:Int)<m:=ao9;have aY:k=m:=ao9;subst aY;go_wp2;go_ret;have hN:=hN.out;have aO:=hm.out;refine⟨⟨w.heap.size,w.heap.size+1,nv,V I 0 0,fb,fm,fl,cv,0,-1,[],List.replicate k oy,[],vs⟩,rfl,⟨hN.head,?_,?_,Mu _ _ _ _,?_,λj hj=>by simp at hj,λj hj=>by simp at hj,as9,as9,?_,by simp[aO]⟩,hN.low,?_,rfl,rfl,rfl,rfl,by rw[<-aO];rfl⟩
   .exact Axu hN.map
   .have:=Yz (B':=0) hN.nodes (Ar _);simpa using this
   .have:=Yz (B':=0) hN.az (Ar _);rw[Dd ao9]at this;rw[aO]at this;exact this
   .refine ⟨⟨w,hf.out,hN.low,λb hb=>?_⟩,av.out⟩;rcases hb with e|e|e|e|⟨j,hj,_⟩
    .have:b=w.heap.size:=e;omega
    .have:b=w.heap.size+1:=e;omega
    .have:=Nt hN.nodes e;omega
    .simp [Value.ownBlock]at e
    .simp at hj
   .intro b hb;rcases hb with e|e|e|e|⟨j,hj,_⟩
    .have:b=w.heap.size:=e;omega
    .have:b=w.heap.size+1:=e;omega
    .have:=Nt hN.nodes e;omega
    .simp [Value.ownBlock]at e
    .simp at hj
end
section
open Go.RowKit Go.Maps Go.Lib
variable{T:Tv}{u v:V4}{w w' w1 wr:WD}
def Iq (w:WD) (r:Int) (e:Ending) (w':WD):Prop:=e=Q (Z G r)/\BW w.heap.size w w'
def Akf   (x:dt) (h:Al w T) (hn:0<=x.n.node) (hk:x.n.kind=8\/x.n.kind=9\/x.n.kind=10\/x.n.kind=11) :
  CS prog 59 #[K (O ⟨T.tb,0,I⟩),x.val] w (Iq w (Lb T.pl x.n)):=by
 obtain⟨W0,s⟩:=Ex (w.alloc (J x.cells 40 (0,0)));have b0:BW w.heap.size w W0:=by rw[s];exact Bn
 have u:=h.low b0;have p:W0.heap[w.heap.size]?=O (J x.cells 40 (0,0)):=by rw[s];exact Ah _ _
 have aE:=Ac p;have ap:=Ac u.head
 obtain⟨so,cap,ac,c3,af⟩:∃so cap,T.nv=V so T.nodes.length cap/\W0.cell? ⟨T.tb,3,I⟩=O (V so T.nodes.length cap)/\T.nodes.length<=9223372036854775807:=by
  rcases u.nodes.2 with⟨e,h0⟩|⟨g,cap,aK,e,_,_,h1,h2,_⟩
  .exact ⟨I,0,by rw[e,h0],by rw[Aa u.head 3,h0,<-e];rfl,ao9⟩
  .exact ⟨_,_,e,by rw[Aa u.head 3,<-e];rfl,by unfold maxLen at h2;omega⟩
 have c1:=Bk u.head 1 (Z G T.tick) rfl;obtain⟨tb,ht⟩:=Ex (T.tb);obtain⟨m,hm⟩:=Ex (T.nodes.length);obtain⟨r,hr⟩:=Ex (Lb T.pl x.n);obtain⟨tk,t⟩:=Ex (T.tick);rw[<-hr,<-ht];rw[<-ht,<-hm]at c3;rw[<-ht,<-t]at c1;rw[<-ht]at ap
 have a:r=if (m:Int)<=x.n.node then 142
   else if x.n.kind=8\/x.n.kind=9 then(if x.n.tick<tk then 141 else if (Sn T.nodes x.n.node).up≠decide (x.n.kind=8)then 100 else 0)
   else if x.n.kind=10\/x.n.kind=11 then(if (Sn T.nodes x.n.node).bq≠decide (x.n.kind=11)then 100 else 0)else 0:=by rw[hr,hm,t];rfl
 obtain⟨⟨kd,ep,et,cl,sq,jn,an,nn,hw⟩,aM,sn,sc,dm⟩:=x;simp only at hn hk a;have e0:=Bk p 0 (Z G kd) rfl;have e2:=Bk p 2 (Z G et) rfl;have e7:=Bk p 7 (Z G nn) rfl;by_cases q:(m:Int)<=nn
 .rw [Ad q]at a;subst a;replace⟨h,u,p,ac,ht,hm,hr,t⟩:=H8 h u p ac ht hm hr t;replace⟨hk,b0,af⟩:=H3 hk b0 af;go_enter func59,ntmps59;go_upto_region 1 with fail;rw[<-s];clear s;go_quiet (fail);rename_i nq;have l:=b0.trans ((A6 _ W0 nq).mono b0.size);replace l:=Hh l;go_wp2;go_ret;exact⟨rfl,l.out⟩
 .rw [Ab q]at a;obtain⟨k,rfl⟩:∃k:Nat,nn=(k:Int):=⟨nn.toNat,ao9⟩;have aL:(k:Int)<m:=ao9
  obtain⟨g,aJ,o,am,_⟩:=u.yi ao9;have e1:so=O ⟨g,0,I⟩:=by have:=ac.symm.trans o;injection this
  subst e1;obtain⟨nd,ad⟩:=Ge T.nodes k ao9;obtain⟨n0,n1,n2,_⟩:=u.oi ad o;have ao:Sn T.nodes (k:Int)=nd:=by unfold Sn;rw[J7,ad];rfl
  rw[ao]at a;obtain⟨up,dr,si⟩:=nd;simp only at a n0 n1 n2;clear am;have aC:g<W0.heap.size:=by obtain⟨_,hc,_⟩:=Cq u.nodes (g:=g) (by rw[o];rfl);exact Ac hc
  replace⟨h,u,p,ac,ht,hm,hr,t⟩:=H8 h u p ac ht hm hr t;replace⟨b0,o,ad,ao⟩:=H4 b0 o ad ao;go_enter func59,ntmps59;go_upto_region 1 with fail;rw[<-s];clear s;go_quiet (fail);rename_i nq;go_upto_region 3 with fail;obtain⟨d,c⟩:=Ex (W0.drewN nq);have aA:d.cell? ⟨w.heap.size,0,I⟩=O (Z G kd):=by rw[c];exact e0
  have aB:d.cell? ⟨w.heap.size,2,I⟩=O (Z G et):=by rw[c];exact e2
  have aF:d.cell? ⟨w.heap.size,7,I⟩=O (Z G k):=by rw[c];exact e7
  have av:d.cell? ⟨tb,1,I⟩=O (Z G tk):=by rw[c];exact c1
  have am:d.cell? ⟨tb,3,I⟩=O (V (O ⟨g,0,I⟩) m cap):=by rw[c];exact c3
  have aG:d.cell? ⟨g,k*3,I⟩=O (Y up):=by rw[c];exact n0
  have aH:d.cell? ⟨g,k*3+1,I⟩=O (Y dr):=by rw[c];exact n1
  have aI:d.cell? ⟨g,k*3+2,I⟩=O (Z G si):=by rw[c];exact n2
  have z:w.heap.size<d.heap.size:=by rw[c];exact aE
  have al:tb<d.heap.size:=by rw[c];exact ap
  have aD:g<d.heap.size:=by rw[c];exact aC
  have l:BW w.heap.size w d:=by rw[c];exact b0.trans ((A6 _ W0 nq).mono b0.size)
  rw[<-c];replace l:=Hh l;clear c e0 e2 e7 c1 c3 n0 n1 n2 aE ap aC;go_region;obtain⟨W3,v⟩:=Ex ((d.alloc (J #[Y up,Y dr,Z G si] 119)).drew);have f:BW d.heap.size d W3:=by rw[v];exact Bn.trans ⟨rfl,rfl,rfl,Nat.le_refl _,λ_ _=>rfl⟩
  have y:=l.trans (f.mono l.size);have e0:=(Bl (w:=d) (f.block _ z)).trans aA;have e2:=(Bl (w:=d) (f.block _ z)).trans aB;have c1:=(Bl (w:=d) (f.block _ al)).trans av;have x0:W3.cell? ⟨d.heap.size,0,I⟩=O (Y up):=by rw[v];exact Aa (w:=(d.alloc (J #[Y up,Y dr,Z G si] 119)).drew) (Ah d _) 0
  have x1:W3.cell? ⟨d.heap.size,1,I⟩=O (Y dr):=by rw[v];exact Aa (w:=(d.alloc (J #[Y up,Y dr,Z G si] 119)).drew) (Ah d _) 1
  rw[<-v];replace⟨f,y⟩:=H2 f y;clear v aA aB aF av am aG aH aI z al aD;have i:=λn=>y.trans ((A6 _ W3 n).mono y.size);have j:=y.out;replace⟨i,j⟩:=H2 i j;rcases hk with rfl|rfl|rfl|rfl
  .by_cases qt:et<tk
   .have b:r=141:=(by rw[a];simp[qt]);replace a:=Hh a;subst b;go_wp2;go_quiet (fail);go_wp2;go_ret;exact⟨rfl,i _⟩
   .cases up
    all_goals
     have b:r=_:=a;simp[qt]at b;replace a:=Hh a;subst b;go_wp2;go_quiet (fail);go_wp2;go_ret;exact⟨rfl,i _⟩
  .by_cases qt:et<tk
   .have b:r=141:=(by rw[a];simp[qt]);replace a:=Hh a;subst b;go_wp2;go_quiet (fail);go_wp2;go_ret;exact⟨rfl,i _⟩
   .cases up
    all_goals
     have b:r=_:=a;simp[qt]at b;replace a:=Hh a;subst b;go_wp2;go_quiet (fail);go_wp2;go_ret;exact⟨rfl,i _⟩
  .cases dr
   all_goals
    have b:r=_:=a;simp at b;replace a:=Hh a;subst b;go_wp2;go_ret;exact⟨rfl,j.out⟩
  .cases dr
   all_goals
    have b:r=_:=a;simp at b;replace a:=Hh a;subst b;go_wp2;go_ret;exact⟨rfl,j.out⟩
def Sq {B:Nat}  (h:BW B w w'):(∀k o,k<B->w'.cell? ⟨k,o,I⟩=w.cell? ⟨k,o,I⟩)/\(∀k o,k<B->w'.frozen? ⟨k,o,I⟩=w.frozen? ⟨k,o,I⟩):=
 ⟨λk o a=>Bl (h.block k a),λk o a=>by simp only[World.frozen?,h.block k a]⟩
def Akg   (x:dt) (h:Al w T) (hn:1<=x.n.cq) :
  CS prog 60 #[K (O ⟨T.tb,0,I⟩),x.val] w (Iq w (Ju T.pl x.n)):=by
 obtain⟨a,s⟩:=Ex (w.alloc (J x.cells 40 (0,0)));have l:BW w.heap.size w a:=by rw[s];exact Bn
 have hA:=h.low l;have f:a.heap[w.heap.size]?=O (J x.cells 40 (0,0)):=by rw[s];exact Ah _ _
 have aG:=Ac f
 obtain⟨so,cap,t,c4,al⟩:∃so cap,T.jv=V so T.js.length cap/\a.cell? ⟨T.tb,4,I⟩=O (V so T.js.length cap)/\T.js.length<=9223372036854775807:=by
  rcases hA.ab.2 with⟨e,h0⟩|⟨g,cap,aT,e,_,_,h1,h2,_⟩
  .exact ⟨I,0,by rw[e,h0],by rw[Aa hA.head 4,h0,<-e];rfl,ao9⟩
  .exact ⟨_,_,e,by rw[Aa hA.head 4,<-e];rfl,by unfold maxLen at h2;omega⟩
 obtain⟨tb,ht⟩:=Ex (T.tb);obtain⟨m,hm⟩:=Ex (T.js.length);obtain⟨r,hr⟩:=Ex (Ju T.pl x.n);rw[<-hr,<-ht];rw[<-ht,<-hm]at c4;rw[<-hm]at al t;have c:r=if (m:Int)<x.n.cq then 90 else if x.n.kind≠7 then(Ay (Fn T.pl.ab x.n.cq).lf (Gn x.n.kind)).2 else if Gj (Fn T.pl.ab x.n.cq) x.n.attempt x.n.node=I then 100 else 0:=by rw[hr,hm];unfold Ju;simp[Tv.pl]
 obtain⟨⟨kd,ep,et,cl,sq,jn,an,nn,hw⟩,aX,sn,sc,dm⟩:=x;simp only at hn c;have e0:=Bk f 0 (Z G kd) rfl;have e5:=Bk f 5 (Z G jn) rfl;have e6:=Bk f 6 (Z G an) rfl;have e7:=Bk f 7 (Z G nn) rfl;by_cases q:(m:Int)<jn
 .rw [Ad q]at c;subst c;replace⟨h,hA,f,t,ht,hm,hr,l⟩:=H8 h hA f t ht hm hr l;replace al:=Hh al;go_enter func60,ntmps60;go_upto_region 1 with fail;rw[<-s];clear s;go_quiet (fail);rename_i nq;have ap:=l.trans ((A6 _ a nq).mono l.size);replace ap:=Hh ap;go_wp2;go_ret;exact⟨rfl,ap.out⟩
 .rw [Ab q]at c;obtain⟨k,rfl⟩:∃k:Nat,jn=(k:Int)+1:=⟨(jn-1).toNat,ao9⟩;have aV:(k:Int)<m:=ao9
  have aU:(0:Int)<=(k:Int):=ao9
  obtain⟨j,hj⟩:=Ge T.js k ao9;obtain⟨g,aN,_,cj,_,u⟩:=hA.jf hj;have e1:so=O ⟨g,0,I⟩:=by have:=t.symm.trans u;injection this
  subst e1;obtain⟨b,z⟩:=j;have i:=Ai hj;have af:Fn T.pl.ab ((k:Int)+1)=z.pl:=by unfold Fn;rw[show((k:Int)+1-1).toNat=k by omega];simp[Tv.pl,hj]
  rw[af]at c;simp only at cj;have d:=hA.box _ i;have am:=(hA.ok _ i).parts;have kp:∀W,BW a.heap.size a W->CS prog 102 #[K (O ⟨b,0,I⟩),Z G an,Z G nn] W (Agq z an nn W):=λW hW=>Agr (Ae hW d (Ac d)) (Bo.low am hW) an nn;by_cases q7:kd=7
  .subst q7;rw[Ab as9]at c;replace⟨h,hA,f,t,ht,hm,hr,l⟩:=H8 h hA f t ht hm hr l;replace⟨u,hj,i,af,d,am,kp,c⟩:=H8 u hj i af d am kp c;go_enter func60,ntmps60;go_upto_region 1 with fail;rw[<-s];clear s;go_quiet (fail);rename_i nq;go_upto_region 3 with fail;go_quiet (fail);rename_i aH;go_wp2_with fail;refine(kp _ (A6 _ a _)).mono ?_;rintro e w1 ⟨rfl,hq⟩;have ac:=λn=>l.trans ((A6 _ a n).mono l.size);rcases hq with⟨aA,rfl⟩|⟨k2,pb,aD,_,_,rfl⟩
   .have aB:r=100:=(by rw[c.out,Ad aA]);replace⟨ac,aA⟩:=H2 ac aA;subst aB;go_wp2;go_ret;exact⟨rfl,ac _⟩
   .have aB:r=0:=(by rw[c.out,Ab (by rw[aD];simp)]);replace⟨ac,aD⟩:=H2 ac aD;subst aB;go_wp2;go_ret;exact⟨rfl,ac _⟩
  .rw [Ad q7]at c;have aI:=Bk d 14 (Z G z.pl.lf.st) rfl;have aJ:=Bk d 15 (Z G z.pl.lf.bp) rfl;have aK:=Bk d 16 (Z G z.pl.lf.left) rfl;have aL:=Bk d 17 (Y z.pl.lf.wall) rfl;have aM:=Bk d 18 (Y z.pl.lf.stop) rfl
   have ao:1<=Gn kd/\Gn kd<=8:=by unfold Gn;split<;>(try split)<;>omega
   have ks:=λW=>Agp kd W;obtain⟨sg,aC⟩:=Ex (Gn kd);rw[<-aC]at ks ao c;have kx:=λW=>Agb z.pl.lf sg W ao;obtain⟨⟨l1,r1⟩,av⟩:∃p,p=Ay z.pl.lf sg:=⟨_,rfl⟩;rw[<-av]at kx c;simp only at kx c;subst c;replace⟨h,hA,f,t,ht,hm,hr,l⟩:=H8 h hA f t ht hm hr l;replace⟨u,hj,i,af,d,am,kp,ao⟩:=H8 u hj i af d am kp ao;replace⟨aC,av,ks,kx⟩:=H4 aC av ks kx;go_enter func60,ntmps60;go_upto_region 1 with fail;rw[<-s];clear s;go_quiet (fail);rename_i nq;go_upto_region 3 with fail;go_quiet (fail);rename_i aH;have aY:∀n,((a.drewN n).alloc (J #[Z G 0,Z G 0,Z G 0,Y false,Y false] 43)).cell? ⟨a.heap.size,0,I⟩=O (Z G 0):=λn=>Aa (w:=(a.drewN n).alloc (J #[Z G 0,Z G 0,Z G 0,Y false,Y false] 43)) (Ah (a.drewN n) _) 0;have aZ:∀n,((a.drewN n).alloc (J #[Z G 0,Z G 0,Z G 0,Y false,Y false] 43)).cell? ⟨a.heap.size,1,I⟩=O (Z G 0):=λn=>Aa (w:=(a.drewN n).alloc (J #[Z G 0,Z G 0,Z G 0,Y false,Y false] 43)) (Ah (a.drewN n) _) 1;have a0:∀n,((a.drewN n).alloc (J #[Z G 0,Z G 0,Z G 0,Y false,Y false] 43)).cell? ⟨a.heap.size,2,I⟩=O (Z G 0):=λn=>Aa (w:=(a.drewN n).alloc (J #[Z G 0,Z G 0,Z G 0,Y false,Y false] 43)) (Ah (a.drewN n) _) 2;have a1:∀n,((a.drewN n).alloc (J #[Z G 0,Z G 0,Z G 0,Y false,Y false] 43)).cell? ⟨a.heap.size,3,I⟩=O (Y false):=λn=>Aa (w:=(a.drewN n).alloc (J #[Z G 0,Z G 0,Z G 0,Y false,Y false] 43)) (Ah (a.drewN n) _) 3;have a2:∀n,((a.drewN n).alloc (J #[Z G 0,Z G 0,Z G 0,Y false,Y false] 43)).cell? ⟨a.heap.size,4,I⟩=O (Y false):=λn=>Aa (w:=(a.drewN n).alloc (J #[Z G 0,Z G 0,Z G 0,Y false,Y false] 43)) (Ah (a.drewN n) _) 4;have zf:∀n o,((a.drewN n).alloc (J #[Z G 0,Z G 0,Z G 0,Y false,Y false] 43)).frozen? ⟨a.heap.size,o,I⟩=false:=λn=>Ag (w:=(a.drewN n).alloc (J #[Z G 0,Z G 0,Z G 0,Y false,Y false] 43)) (Ah (a.drewN n) _);have y:=λn=>l.trans ((A6 _ a n).mono l.size);replace y:=Hh y;have ad:=Ac d.out;have ze:∀n,((a.drewN n).alloc (J #[Z G 0,Z G 0,Z G 0,Y false,Y false] 43)).cell? ⟨w.heap.size,0,I⟩=O (Z G kd):=λn=>(Bl (w:=a) (((A6 _ a n).alloc Ln _).block _ aG)).trans e0;have aO:∀n,((a.drewN n).alloc (J #[Z G 0,Z G 0,Z G 0,Y false,Y false] 43)).cell? ⟨b,14,I⟩=O (Z G z.pl.lf.st):=λn=>(Bl (w:=a) (((A6 _ a n).alloc Ln _).block _ ad)).trans aI;have aP:∀n,((a.drewN n).alloc (J #[Z G 0,Z G 0,Z G 0,Y false,Y false] 43)).cell? ⟨b,15,I⟩=O (Z G z.pl.lf.bp):=λn=>(Bl (w:=a) (((A6 _ a n).alloc Ln _).block _ ad)).trans aJ;have aQ:∀n,((a.drewN n).alloc (J #[Z G 0,Z G 0,Z G 0,Y false,Y false] 43)).cell? ⟨b,16,I⟩=O (Z G z.pl.lf.left):=λn=>(Bl (w:=a) (((A6 _ a n).alloc Ln _).block _ ad)).trans aK;have aR:∀n,((a.drewN n).alloc (J #[Z G 0,Z G 0,Z G 0,Y false,Y false] 43)).cell? ⟨b,17,I⟩=O (Y z.pl.lf.wall):=λn=>(Bl (w:=a) (((A6 _ a n).alloc Ln _).block _ ad)).trans aL;have aS:∀n,((a.drewN n).alloc (J #[Z G 0,Z G 0,Z G 0,Y false,Y false] 43)).cell? ⟨b,18,I⟩=O (Y z.pl.lf.stop):=λn=>(Bl (w:=a) (((A6 _ a n).alloc Ln _).block _ ad)).trans aM;go_upto_region 5 with fail;go_region_law
    (first
      | (go_simp;go_at_call 101;refine(ks _).mono ?_
         rintro e w1 ⟨rfl,rfl⟩)
      | (go_simp;go_at_call 100;refine(kx _).mono ?_;rintro e w2 ⟨rfl,v⟩;have s2:=v.size;obtain⟨aE,aF⟩:=Sq v
         (try simp at s2)
         (try simp at aE)
         (try simp at aF)
         (try have aW:a.heap.size<w2.heap.size:=by omega)
         replace v:=Hh v))
   all_goals
    go_wp2;go_ret;refine⟨rfl,?_⟩
    first
     | exact((y _).trans (v.mono (y _).size)).alloc (Aw (y _).size v.size) _
     | exact J2 (J2 (J2 (J2 (J2 (((y _).alloc (y _).size _).trans (v.mono (by have:=l.size;simp;omega))) l.size) l.size) l.size) l.size) l.size
structure om (w:WD) (u v:V4) (b:fi) (wr:WD):Prop where
 low:BW w.heap.size w wr
 b1:wr.heap[w.heap.size]?=O (J u.cells 30 (0,0))
 b2:wr.heap[w.heap.size+1]?=O (J v.cells 30 (0,0))
 res:wr.heap[w.heap.size+2]?=O (J #[Z G 0,Z G 0] 333 (0,0))
 oc:wr.heap[w.heap.size+3]?=O (J #[Z G b.1,Z G b.2] 333 (0,0))
def om.next   {b:fi} (h:om w u v b wr) (a:BW wr.heap.size wr w'):om w u v b w':=
 ⟨h.low.trans (a.mono h.low.size),Ae a h.b1 (Ac h.b1),Ae a h.b2 (Ac h.b2),Ae a h.res (Ac h.res),Ae a h.oc (Ac h.oc)⟩
def om.set   {b:fi} (h:om w u v b wr) (x y:Int):om w u v (x,y) ((wr.setCell ⟨w.heap.size+3,0,I⟩ (Z G x)).setCell ⟨w.heap.size+3,1,I⟩ (Z G y)):=
 ⟨Db (Db h.low ao9) ao9,(Ci _ _ _ _ (λe=>by simp at e)).trans ((Ci _ _ _ _ (λe=>by simp at e)).trans h.b1),(Ci _ _ _ _ (λe=>by simp at e)).trans ((Ci _ _ _ _ (λe=>by simp at e)).trans h.b2),(Ci _ _ _ _ (λe=>by simp at e)).trans ((Ci _ _ _ _ (λe=>by simp at e)).trans h.res),by
  have:=Am (Am h.oc 0 (Z G x)) 1 (Z G y)
  simpa using this⟩
structure xl (w:WD) (u v:V4) (b p:fi) (pv:VL) (wr:WD):Prop where
 dw:om w u v b wr
 box:∃g,pv=K (O ⟨g,0,I⟩)/\wr.heap[g]?=O (J #[Z G p.1,Z G p.2] 333 (0,0))/\w.heap.size+3<g
def om.s1   {b:fi} {a c:Int} (h:om w u v b wr) (d:BW wr.drew.heap.size wr.drew w1):xl w u v b (a,c) (K (O ⟨w1.heap.size,0,I⟩)) (w1.alloc (J #[Z G a,Z G c] 333)):=by
 have h0:=h.next (A6 wr.heap.size wr 1);have h1:=h0.next d;have e:=Ac h1.oc;exact⟨h1.next Bn,_,rfl,Ah _ _,e⟩
def om.s2   {b:fi} {c d:Int} (h:om w u v b wr) (g:BW (wr.alloc (J #[Z G 0,Z G 0] 333)).drew.heap.size (wr.alloc (J #[Z G 0,Z G 0] 333)).drew w1) :
  xl w u v b (c,d) (K (O ⟨wr.heap.size,0,I⟩)) ((w1.setCell ⟨wr.heap.size,0,I⟩ (Z G c)).setCell ⟨wr.heap.size,1,I⟩ (Z G d)):=by
 have e:BW wr.heap.size wr (wr.alloc (J #[Z G 0,Z G 0] 333)).drew:=Bn.drew;have f:=e.trans (g.mono as9);have j:=Ae g (Ah _ _) as9;have i:=Ac h.oc;have a:BW wr.heap.size wr ((w1.setCell ⟨wr.heap.size,0,I⟩ (Z G c)).setCell ⟨wr.heap.size,1,I⟩ (Z G d)):=Db (Db f Ln) Ln;refine⟨h.next a,_,rfl,?_,i⟩;have:=Am (Am j 0 (Z G c)) 1 (Z G d);simpa using this
def Oo (v:V4):Prop:=∀d,d<4->v.get d<=9223372036854775807
def Y2 {u v:V4} (h1:Oo u) (c:Oo v):∀d,d<=4->(E3 u v d).1.1<=9223372036854775807/\(E3 u v d).1.2<=9223372036854775807
 | 0,_=>by simp[E3]
 | d+1,hd=>by
  have h:=Y2 h1 c d ao9;have a:=h1 d ao9;have b:=c d ao9;unfold E3;split
  .simp only[Ek];omega
  .exact h
def Axv (u v:V4) (w:WD) (h1:Oo u) (h2:Oo v):CS prog 250 #[u.val,v.val] w λe w'=>e=Q (D #[Q6 (E3 u v 4).1,Z G (E3 u v 4).2])/\BW w.heap.size w w':=by
 obtain⟨W0,ad⟩:=Ex ((((w.alloc (J u.cells 30)).alloc (J v.cells 30)).alloc (J #[Z G 0,Z G 0] 333)).alloc (J #[Z G 0,Z G 0] 333));have ac:om w u v (0,0) W0:=by rw[ad];exact⟨((Bn.alloc as9 _).alloc (by simp;omega) _).alloc (by simp;omega) _,Ak _ (Ak _ (Ak _ (Ah _ _))),Ak _ (Ak _ (A2 _ _ as9)),Ak _ (A2 _ _ as9),A2 _ _ as9⟩
 replace⟨ac,h1,h2⟩:=H3 ac h1 h2;go_enter func250,ntmps250;go_upto_region 2 with fail;rw[<-ad];clear ad;go_wp2_with fail;go_loopw [7,8,9,11] (λav _ _ iv wr=>∃(d:Nat),iv=Z G d/\d<=4/\av=Z G (E3 u v d).2/\Hid (om w u v (E3 u v d).1 wr)) (λ_ _ _ iv _=>4-(intOf iv).toNat)
 case atStart=>exact⟨0,rfl,ao9,rfl,ac⟩
 case round=>
  obtain⟨d,rfl,ap,rfl,l⟩:=hrel;obtain⟨k,b⟩:=Ex ((E3 u v d).1);obtain⟨at_,j⟩:=Ex ((E3 u v d).2);have f:=Y2 h1.out h2.out d ap;rw[<-b]at l f;rw[<-j];by_cases r:d<4
  .have aF:(d:Int)<4:=ao9;have aG:(0:Int)<=(d:Int):=ao9;have af:=h1 d r;have al:=h2 d r;obtain⟨x,hx⟩:=Ex (u.get d);obtain⟨y,hy⟩:=Ex (v.get d);have u0:=hx▸U4 l.b1 r;have v0:=hy▸U4 l.b2 r;have t:E3 u v (d+1)=if d=0\/0<F5 (Ek (x,y)) k then(Ek (x,y),(d:Int))else(k,at_):=(by rw[hx,hy,b,j];rfl);rw[<-hx]at af;rw[<-hy]at al;have kp:=λW=>Acc (x,y) W;obtain⟨⟨m,n⟩,hp⟩:∃p,p=Ek (x,y):=⟨_,rfl⟩;rw[<-hp]at kp t;replace kp:∀W,CS prog 293 #[.agg #[Z G x,Z G y]] W λe w'=>e=Q (.agg #[Z G m,Z G n])/\BW W.heap.size W w':=kp;have z:m<=9223372036854775807/\n<=9223372036854775807:=(by have:=hp;simp only[Ek,Rq]at this;omega);obtain⟨o,q⟩:=k;replace⟨b,j,f,af,al,hx,hy,t⟩:=H8 b j f af al hx hy t;replace⟨hp,z,kp⟩:=H3 hp z kp;go_upto_region 5 with fail;have aC:=Ac l.b1;have aD:=Ac l.b2;go_cut [9] (λpv wx=>xl w u v (o,q) (m,n) pv wx)
   case first=>
    go_region_law (first
     | (go_simp;go_at_call 293;refine(kp _).mono ?_;rintro e w1 ⟨rfl,a⟩;have s2:=a.size;obtain⟨an,aB⟩:=Sq a
        (try simp at s2)
        (try simp at an)
        (try simp at aB)
        (try have aJ:wr.heap.size<w1.heap.size:=by omega)
        replace a:=Hh a))
    all_goals
     go_wp2_with fail;go_meet
     first
      | exact l.s1 a.out
      | exact l.s2 a.out
   case rest=>
    obtain⟨i,g,rfl,hg,am⟩:=hcut;have d0:=Bk hg 0 (Z G m) rfl;have d1:=Bk hg 1 (Z G n) rfl;have e0:=Bk i.oc 0 (Z G o) rfl;have e1:=Bk i.oc 1 (Z G q) rfl;have fe:=Ag i.oc;have kc:∀W,CS prog 251 #[.agg #[Z G m,Z G n],.agg #[Z G o,Z G q]] W λe w'=>e=Q (Z G (F5 (m,n) (o,q)))/\BW W.heap.size W w':=λW=>Ajg (m,n) (o,q) W z.1 z.2 f.1 f.2;obtain⟨cv,s⟩:=Ex (F5 (m,n) (o,q));rw[<-s]at kc;have h:E3 u v (d+1)=if d=0\/0<cv then((m,n),(d:Int))else((o,q),at_):=(by rw[t.out,s]);clear u0 v0 aC aD;replace⟨i,hg,am,kc,s,h⟩:=H6 i hg am kc s h;by_cases ao:d=0
    .subst ao;have c:E3 u v 1=((m,n),(0:Int)):=(by rw[h.out,Ad (.inl rfl)];rfl);replace c:=Hh c;go_wp2_with fail;go_roundw
     case rel=>exact⟨1,rfl,ao9,by rw[c.out];rfl,Hh (by rw[c.out];exact i.set m n)⟩
     case measure=>simp[intOf]
    .have aH:((d:Int) == 0)=false:=(by simp;omega);have aI:¬(d:Int)=0:=ao9;by_cases aE:0<cv
     .have c:E3 u v (d+1)=((m,n),(d:Int)):=(by rw[h.out,Ad (.inr aE)]);replace c:=Hh c;go_wp2_with (go_at_call 251;(with_reducible refine(kc.out _).mono ?_);rintro e w1 ⟨rfl,a⟩;have d0:=(Af a (Ac hg.out)).trans d0;have d1:=(Af a (Ac hg.out)).trans d1;have e0:=(Af a (Ac i.oc)).trans e0;have e1:=(Af a (Ac i.oc)).trans e1;have fe:=Ag (Ae a i.oc (Ac i.oc));replace i:=Hh (i.next a);replace a:=Hh a);go_roundw
      case rel=>exact⟨d+1,by go_num,ao9,by rw[c.out],Hh (by rw[c.out];exact i.set m n)⟩
      case measure=>simp[intOf];omega
     .have c:E3 u v (d+1)=((o,q),at_):=(by rw[h.out,Ab ao9]);replace c:=Hh c;go_wp2_with (go_at_call 251;(with_reducible refine(kc.out _).mono ?_);rintro e w1 ⟨rfl,a⟩;replace i:=Hh (i.next a);replace a:=Hh a);go_roundw
      case rel=>exact⟨d+1,by go_num,ao9,by rw[c.out],Hh (by rw[c.out];exact i.out)⟩
      case measure=>simp[intOf];omega
  .have aA:d=4:=ao9;subst aA;obtain⟨o,q⟩:=k;have u0:=Bk l.oc 0 (Z G o) rfl;have u1:=Bk l.oc 1 (Z G q) rfl;have r0:=Bk l.res 0 (Z G 0) rfl;have r1:=Bk l.res 1 (Z G 0) rfl;have fr:=Ag l.res;replace⟨b,j,f⟩:=H3 b j f;go_wp2;refine An (v:=D #[.agg #[Z G o,Z G q],Z G at_]) (by simp[results,results250,go_sem,r0,r1]) rfl ⟨by rw[<-b.out,<-j.out],?_⟩;exact Db (Db l.low ao9) ao9
def Ayk   (h:Al w T) {i:Nat} {j:Nat×aq} (hj:T.js[i]?=O j) (hr:∀id,id∈j.2.pl.sp.after->1<=id/\id<=(T.js.length:Int)) :
  CS prog 189 #[K (O ⟨T.tb,0,I⟩),K (O ⟨j.1,0,I⟩)] w λe w'=>e=Q (Y (Jp T.pl.ab j.2.pl))/\BW w.heap.size w w':=by
 have b:=Ai hj;have cs:=Bk (h.box j b) 13 (V j.2.so j.2.sn j.2.sc) rfl;have ct:=Bk (h.box j b) 14 (Z G j.2.pl.lf.st) rfl;have ak:=(h.ok j b).after.row;obtain⟨y,c⟩:=Ex (w.alloc (J #[K (O ⟨T.tb,0,I⟩)] 27 (0,0)));have a:BW w.heap.size w y:=by rw[c];exact Bn
 have v:y.cell? ⟨w.heap.size,0,I⟩=O (K (O ⟨T.tb,0,I⟩)):=by rw[c];exact Aa (Ah _ _) 0
 have o:w.heap.size<y.heap.size:=by rw[c];simp
 have g:=(Af a (Ac (h.box j b))).trans cs;have l:=(Af a (Ac (h.box j b))).trans ct
 have f:=Agd 247 #[K (O ⟨w.heap.size,0,I⟩)] (λid=>!decide (Ly T.pl.ab id=5)) j.2.so j.2.sn j.2.sc j.2.pl.sp.after y (ak.low a) Avx (λid ac w1 n=>by
  obtain⟨h1,h2⟩:=hr id ac;obtain⟨k,rfl⟩:∃k:Nat,id=(k:Int)+1:=⟨(id-1).toNat,ao9⟩
  exact(Avy ((h.low a).low n) w.heap.size ((Af n o).trans v) k ao9).mono λe w' ⟨he,hw⟩=>⟨he,by rw[hw];exact Below.refl _ _⟩)
 obtain⟨q,hq⟩:=Ex ((j.2.pl.sp.after.any λid=>!decide (Ly T.pl.ab id=5)));have hz:Jp T.pl.ab j.2.pl=(decide (j.2.pl.lf.st=1) && !q):=by rw[hq];unfold Jp;rw[List.all_eq_not_any_not]
 rw[<-hq]at f;rw[hz];obtain⟨tb,x⟩:=Ex (T.tb);obtain⟨jb,m⟩:=Ex (j.1);obtain⟨so,t⟩:=Ex (j.2.so);obtain⟨sn,s⟩:=Ex (j.2.sn);obtain⟨sc,r⟩:=Ex (j.2.sc);obtain⟨st,u⟩:=Ex (j.2.pl.lf.st);rw[<-t,<-s,<-r]at f g;rw[<-m]at g l;rw[<-u]at l ⊢;rw[c,<-x]at f;rw[c,<-x]at a g l;rw[<-x,<-m];clear hq hz ak cs ct v o c t s r m x h hj hr b u;by_cases p:st=1
 .subst p;replace⟨f,a⟩:=H2 f a;go_enter func189,ntmps189;go_wp2_with fail;refine(f.out).mono ?_;rintro e w' ⟨rfl,z⟩;have d:=a.trans (z.mono a.size);replace⟨d,z⟩:=H2 d z;go_wp2;go_ret;exact⟨as9,d.out⟩
 .replace ⟨f,a⟩:=H2 f a;go_enter func189,ntmps189;go_wp2_with fail
  all_goals
   go_ret;exact⟨by simp[p],a.out⟩
def Or (zs:List Int):List UInt8:=B2 zs.length++zB zs
def Al2 (s:ByteArray):List UInt8:=B2 s.size++s.data.toList
def Nw (j:Jb):List UInt8:=Al2 (au (I6 { j.sp with after:=[] }))++(Or j.sp.after++(zB [j.lf.st,j.lf.bp,j.lf.left,Cm j.lf.wall,Cm j.lf.stop,j.start]++(Or j.aj++Or (j.parts.map Prod.snd))))
def Adp {zs:List Int} (h:Ir zs) (b:zs.length<=1000000):(Or zs).length<=10+10*zs.length:=by
 have h1:=J5 zs h;have a:=Oc (n:=zs.length) ao9;unfold Or;rw[Av];omega
abbrev Adq (W:WD) (b:Nat) (y:ax):Prop:=W.cell? ⟨b,0,I⟩=O (E y.pl.user)/\W.cell? ⟨b,1,I⟩=O (E y.pl.part)/\W.cell? ⟨b,2,I⟩=O (Z G y.pl.nodes)/\W.cell? ⟨b,3,I⟩=O (Z G y.pl.df.a)/\W.cell? ⟨b,4,I⟩=O (Z G y.pl.df.b)/\W.cell? ⟨b,5,I⟩=O (Z G y.pl.df.c)/\W.cell? ⟨b,6,I⟩=O (Z G y.pl.df.d)/\W.cell? ⟨b,7,I⟩=O (Z G y.pl.wall)/\W.cell? ⟨b,8,I⟩=O (Z G y.pl.prio)/\W.cell? ⟨b,9,I⟩=O (Z G y.pl.array)/\W.cell? ⟨b,10,I⟩=O (Z G y.pl.ae)/\W.cell? ⟨b,11,I⟩=O (Y y.pl.held)/\W.cell? ⟨b,12,I⟩=O (V y.so y.n y.c)
def A0r {W:WD} {b:Nat} {y:ax} (h:W.heap[b]?=O (J y.cells 33 (0,0))):Adq W b y:=
 ⟨Aa h 0,Aa h 1,Aa h 2,Aa h 3,Aa h 4,Aa h 5,Aa h 6,Aa h 7,Aa h 8,Aa h 9,Aa h 10,Aa h 11,Aa h 12⟩
def A0s:(prog.info? 33).map (·.size)=O 13:=by kernel_rfl
def A0t (x:aq) (j:Nat) (h:j<13):x.cells[1+j]?=(⟨x.pl.sp,x.so,x.sn,x.sc⟩:ax).cells.toList[j]?:=by
 rcases(show j=0\/j=1\/j=2\/j=3\/j=4\/j=5\/j=6\/j=7\/j=8\/j=9\/j=10\/j=11\/j=12 by omega)with rfl|rfl|rfl|rfl|rfl|rfl|rfl|rfl|rfl|rfl|rfl|rfl|rfl<;>rfl
def Vk (W:WD) (zs:List Int) (h:zs.length<=9223372036854775807):Ao (W.alloc (J (zs.map (Value.int G)).toArray 3 (0,0))) (O ⟨W.heap.size,0,I⟩) zs.length zs:=
 ⟨rfl,h,λi z a=>⟨W.heap.size,0,rfl,as9,by
  rw[Dm,Aa (Ah W _) i]
  simp[a]⟩⟩
def A0u (so:Option Addr) (n c:Nat) (l:List UInt8) (t:Nat) (x:aq) (S:Nat->Prop) (w:WD) (hb:Js w so n l) (hx:Ba w t x) (s:Nb w S x) (ht:Tb w) (bP:Vf x)
  (hs:Ir x.pl.sp.after) (hg:Ir x.pl.aj) (hL:Ir [x.pl.lf.st,x.pl.lf.bp,x.pl.lf.left,Cm x.pl.lf.wall,Cm x.pl.lf.stop,x.pl.start]) (hp:Ir (x.pl.parts.map Prod.snd)) (bQ:(au (I6 { x.pl.sp with after:=[] })).size<=100000) (hn:n<=1000000000000) :
  CS prog 56 #[V so n c,K (O ⟨t,0,I⟩)] w λe w'=>∃v,e=Q v/\fh w (l++Nw x.pl) v w':=by
 obtain⟨i3,bw,bF,aS,aT⟩:=B6 Lx;have aQ:=I9 s.parts;obtain⟨b1,b2,b3⟩:=bP;have bM:=Ac hx;have bA:=hb.len;obtain⟨z,hz⟩:∃z:ax,z=⟨x.pl.sp,x.so,x.sn,x.sc⟩:=⟨_,rfl⟩;obtain⟨y,hy⟩:∃y:ax,y=⟨{ x.pl.sp with after:=[] },I,0,0⟩:=⟨_,rfl⟩;have bE:y.ok w:=by rw[hy];exact⟨Qi w,Nat.le_refl _,s.user,s.part⟩
 obtain⟨tx,al⟩:=Ex (au (I6 y.pl));have bU:tx.size<=100000:=by rw[al,hy];exact bQ
 have kt:∀W,BW w.heap.size w W->CS prog 95 #[y.val] W λe w'=>e=Q (E tx)/\BW W.heap.size W w':=λW hW=>by rw[al];exact Ape y W (bE.low hW) (ht.low hW)
 have am:∀W,BW w.heap.size w W->∀o,W.cell? ⟨t,o,I⟩=x.cells[o]?:=λW hW o=>Aa (Ae hW hx bM) o
 have a8:w.rangeAt t 1 z.cells.toList:=λj v hv=>by
  have hj:j<13:=(Ap.1 hv).1;rw[am w (Below.refl _ _) (1+j),<-hv,hz];exact A0t x j hj
 obtain⟨W2,aG⟩:=Ex (w.alloc (J #[E z.pl.user,E z.pl.part,Z G z.pl.nodes,Z G z.pl.df.a,Z G z.pl.df.b,Z G z.pl.df.c,Z G z.pl.df.d,Z G z.pl.wall,Z G z.pl.prio,Z G z.pl.array,Z G z.pl.ae,Y z.pl.held,V z.so z.n z.c] 33 (0,0)));have a0:BW w.heap.size w W2:=by rw[aG];exact Bn
 have aI:W2.heap[w.heap.size]?=O (J z.cells 33 (0,0)):=by rw[aG];exact Ah _ _
 have bK:=Ag aI 12;have bT:=Bk aI 12 (V z.so z.n z.c) rfl;have aR:(W2.setCell ⟨w.heap.size,12,I⟩ (V I 0 0)).heap[w.heap.size]?=O (J y.cells 33 (0,0)):=by have h1:=Am aI 12 (V I 0 0);rw[hz]at h1;rw[hy];exact h1
 have m:=J2 (o:=12) (v:=V I 0 0) a0 (Nat.le_refl w.heap.size);replace⟨hb,hx,s,ht,hs,hg,hL,hp⟩:=H8 hb hx s ht hs hg hL hp;replace⟨aQ,bA,bE,al,kt,am,a8,hz⟩:=H8 aQ bA bE al kt am a8 hz;replace⟨hy,a0,aI,aG,aR,m,bw,bF⟩:=H8 hy a0 aI aG aR m bw bF;replace⟨aS,aT⟩:=H2 aS aT;go_enter func56,ntmps56;go_upto_region 1 with fail;go_upto_region 2 with(refine wpList_load_mid rfl 33 _ rfl t 1 rfl z.cells.toList _ a8.out underlying33 rfl A0s ?_);rw[<-aG.out];go_upto_region 3 with fail;obtain⟨W3,bn⟩:=Ex (W2.setCell ⟨w.heap.size,12,I⟩ (V I 0 0));rw[<-bn]at aR m ⊢;clear bT bK aG a0 aI a8
 have hS:∀q,BW W3.heap.size W3 q->Adq q w.heap.size y/\q.cell? ⟨t,13,I⟩=O (V x.so x.sn x.sc):=λq aY=>
  ⟨A0r (Ae aY aR.out (Ac aR.out)),am q (m.trans (aY.mono m.size)) 13⟩
 have g:BW W3.heap.size W3 W3.drew:=(Below.refl _ _).drew;have ba:∀W,BW W3.heap.size W3 W->_:=λW hW=>kt.out W (m.trans (hW.mono m.size));have bb:∀W,BW W3.heap.size W3 W->_:=λW hW=>Apt so n c l tx W ao9 (hb.low (m.trans (hW.mono m.size))) ao9;have aZ:∀W,BW W3.heap.size W3 W->Ao W x.so x.sn x.pl.sp.after:=λW hW=>s.after.row.low (m.trans (hW.mono m.size));have a3:(l++B2 tx.size++tx.data.toList).length<=n+100010:=by have h1:=Oc (n:=tx.size) ao9;have h2:=M8 tx;rw[Av,Av,bA.out];omega
 replace⟨hS,g,ba,bb,aZ,a3,bn⟩:=H7 hS g ba bb aZ a3 bn;go_cut [0] (λbv wx=>fh W3 (l++B2 tx.size++tx.data.toList++(B2 x.sn++zB x.pl.sp.after)) bv wx)
 case first=>
  go_region_held3 (λq=>Adq q w.heap.size y/\q.cell? ⟨t,13,I⟩=O (V x.so x.sn x.sc))
   (first
     | with_reducible exact hS.out _ g.out)
   (first
     | (go_at_call 95
        (with_reducible refine(ba.out _ g.out).mono ?_)
        rintro e wz ⟨rfl,bH⟩;replace g:=Hh (g.trans (bH.mono g.size))
        clear bH)
     | (go_at_call 94
        (with_reducible refine(bb.out _ g.out).mono ?_)
        rintro e wy ⟨v1,rfl,bi,ad⟩;obtain⟨bc,n1,c1,rfl,r⟩:=(fh.ky bi (Below.refl wy.heap.size wy)).own;have b0:=r.len;have kI:=λ(W:WD) (hW:BW wy.heap.size wy W)=>Ado bc n1 c1 _ x.so x.sn x.sc x.pl.sp.after W (r.low hW) (aZ W ((g.trans (ad.mono g.size)).trans (hW.mono (g.trans (ad.mono g.size)).size))) hs.out (by have:=a3.out;omega);have aL:=Below.refl wy.heap.size wy;replace g:=Hh (g.trans (ad.mono g.size));replace⟨bi,r,kI,aL⟩:=H4 bi r kI aL
        clear ad)
     | (go_at_call 93
        (with_reducible refine(kI.out _ aL.out).mono ?_)
        rintro e wi ⟨v2,rfl,aV⟩;replace g:=Hh (g.trans (aV.low.mono g.size))
        replace aV:=Hh aV))
  all_goals
   go_wp2_with fail;go_meet
   case rel=>exact⟨aV.own,g.out⟩
 case rest=>
 obtain⟨⟨bc,n1,c1,rfl,r⟩,a4⟩:=hcut;have ap:=m.trans (a4.mono m.size);have bX:n1<=1000000200000:=by have h1:=a3.out;have h2:=J5 _ hs.out;have h3:=Oc (n:=x.sn) ao9;have h4:=s.after.row.len;have h5:=r.len;have h6:(B2 x.sn++zB x.pl.sp.after).length=_:=Av;rw[Av]at h5;omega
 obtain⟨l1,aD⟩:=Ex (l++B2 tx.size++tx.data.toList++(B2 x.sn++zB x.pl.sp.after));rw[<-aD]at r;obtain⟨N,hN⟩:=Ex ([x.pl.lf.st,x.pl.lf.bp,x.pl.lf.left,Cm x.pl.lf.wall,Cm x.pl.lf.stop,x.pl.start]);obtain⟨o1,a5⟩:=Ex (Cm x.pl.lf.wall);obtain⟨o2,a6⟩:=Ex (Cm x.pl.lf.stop);have k1:=Zb x.pl.lf.wall;have k2:=Zb x.pl.lf.stop;rw[<-a5]at k1;rw[<-a6]at k2
 have a9:∀W,BW wc.heap.size wc W->CS prog 52 #[V bc n1 c1,V (O ⟨W.heap.size,0,I⟩) 6 6] (W.alloc (J #[Z G x.pl.lf.st,Z G x.pl.lf.bp,Z G x.pl.lf.left,Z G o1,Z G o2,Z G x.pl.start] 3 (0,0))) λe w'=>∃v,e=Q v/\fh (W.alloc (J #[Z G x.pl.lf.st,Z G x.pl.lf.bp,Z G x.pl.lf.left,Z G o1,Z G o2,Z G x.pl.start] 3 (0,0))) (l1++zB N) v w':=λW hW=>by
  rw[hN,a5,a6];exact Vj bc n1 c1 l1 (O ⟨W.heap.size,0,I⟩) 6 6 [x.pl.lf.st,x.pl.lf.bp,x.pl.lf.left,Cm x.pl.lf.wall,Cm x.pl.lf.stop,x.pl.start] _ ((r.low hW).low Bn) (Vk W [x.pl.lf.st,x.pl.lf.bp,x.pl.lf.left,Cm x.pl.lf.wall,Cm x.pl.lf.stop,x.pl.start] as9) hL.out ao9
 have an:∀q,BW wc.heap.size wc q->q.cell? ⟨t,14,I⟩=O (Z G x.pl.lf.st)/\q.cell? ⟨t,15,I⟩=O (Z G x.pl.lf.bp)/\q.cell? ⟨t,16,I⟩=O (Z G x.pl.lf.left)/\q.cell? ⟨t,17,I⟩=O (Y x.pl.lf.wall)/\q.cell? ⟨t,18,I⟩=O (Y x.pl.lf.stop)/\q.cell? ⟨t,19,I⟩=O (Z G x.pl.start):=λq aY=>by
  have h1:=am q (ap.trans (aY.mono ap.size));exact⟨h1 14,h1 15,h1 16,h1 17,h1 18,h1 19⟩
 have f:BW wc.heap.size wc wc.drew:=(Below.refl _ _).drew;have bf:(zB N).length<=60:=by rw[hN];exact J5 _ hL.out
 have aO:=r.len;clear hS ba bb aZ kt;replace⟨ap,a4,r,aD,hN,a5,a6,k1⟩:=H8 ap a4 r aD hN a5 a6 k1;replace⟨k2,a9,an,f,bf,aO⟩:=H6 k2 a9 an f bf aO;go_upto_region 4 with fail;go_cut [0] (λbv wx=>fh wc (l1++zB N) bv wx)
 case first=>
  go_region_held3 (λq=>q.cell? ⟨t,14,I⟩=O (Z G x.pl.lf.st)/\q.cell? ⟨t,15,I⟩=O (Z G x.pl.lf.bp)/\q.cell? ⟨t,16,I⟩=O (Z G x.pl.lf.left)/\q.cell? ⟨t,17,I⟩=O (Y x.pl.lf.wall)/\q.cell? ⟨t,18,I⟩=O (Y x.pl.lf.stop)/\q.cell? ⟨t,19,I⟩=O (Z G x.pl.start))
   (first
     | with_reducible exact an.out _ f.out
     | exact an.out _ (f.alloc f.size _)
     | exact an.out _ (f.alloc f.size _).drew
     | exact an.out _ f.drew)
   (first
     | (go_at_call 55
        (first|(with_reducible refine(k1.out _).mono ?_)|(with_reducible refine(k2.out _).mono ?_))
        rintro e wz ⟨rfl,rfl⟩)
     | (go_at_call 52;refine(a9 wc.drew f.out).mono ?_;rintro e w4 ⟨v4,rfl,aW⟩;replace f:=Hh ((f.alloc f.size _).trans (aW.low.mono (f.alloc f.size _).size))
        replace aW:=Hh aW))
  all_goals
   go_wp2_with fail;go_meet
   case rel=>exact⟨aW.own,f.out⟩
 case rest=>
 obtain⟨⟨bR,n2,c2,rfl,aF⟩,bI⟩:=hcut;have aP:=ap.trans (bI.mono ap.size);obtain⟨po,a7⟩:=Ex (x.po);have bJ:wc.cell? ⟨t,21,I⟩=O (V po x.pn x.pc):=by rw[a7];exact am.out wc aP 21
 have bY:n2<=1000000200100:=by have h1:=bf.out;have h2:=aF.len;have h3:=aO.out;rw[Av]at h2;omega
 have bg:Aj wc wc.heap.size (V I 0 0) []:=⟨⟨rfl,.inl ⟨rfl,rfl⟩⟩⟩;obtain⟨l2,aE⟩:=Ex (l1++zB N);rw[<-aE]at aF;clear bI an a9 f r k1 k2 a4 ap;replace⟨aF,aP,bg,aE,a7⟩:=H5 aF aP bg aE a7;go_wp2_with fail;go_loopw [6,8,63] (λhv _ iv wr=>∃i:Nat,iv=Z G i/\i<=x.pn/\Hid (Aj wr wc.heap.size hv ((x.pl.parts.take i).map Prod.snd))/\Hid (BW wc.heap.size wc wr)) (λ_ _ iv _=>x.pn-(intOf iv).toNat)
 case atStart=>exact⟨0,rfl,Ar _,bg.out,Below.refl _ _⟩
 case round=>
  rename WD=>wr
  obtain⟨i,rfl,hi,hO,aH⟩:=hrel;have h:=aP.trans (aH.mono aP.size);by_cases hc:i<x.pn
  .have bN:(i:Int)<x.pn:=ao9;have bW:(0:Int)<=(i:Int):=ao9;obtain⟨pb,p,e,bB,d0,d1⟩:=Pb (Bo.low s.parts h) (k:=i) hc;obtain⟨p1,p2⟩:=p;simp only at d0 d1;have bC:(x.pl.parts.take (i+1)).map Prod.snd=(x.pl.parts.take i).map Prod.snd++[p2]:=(by rw[Mt,bB];simp);obtain⟨L,aJ⟩:=Ex (((x.pl.parts.take i).map Prod.snd).length);have bV:L<=i:=(by rw[aJ,As,Dt];omega);obtain⟨W8,aK⟩:=Ex (wr.alloc (J #[Z G p1,Z G p2] 65 (0,0)));have a1:BW wr.heap.size wr W8:=(by rw[aK];exact Bn);have bD:W8.heap[wr.heap.size]?=O (J #[Z G p1,Z G p2] 65 (0,0)):=(by rw[aK];exact Ah _ _);have aB:(W8.alloc (J #[Z G p2] 3 (0,0))).ownsRow wc.heap.size 3 1 u6 L (Bj ((x.pl.parts.take i).map Prod.snd)):=(by rw[aJ,aK];exact(hO.row.alloc (J #[Z G p1,Z G p2] 65 (0,0))).alloc (J #[Z G p2] 3 (0,0)));have bs:∀k,u6.ownBlock=O k->wc.heap.size<=k/\k<wr.heap.size:=λk hk=>⟨(hO.row.lt k hk).1,(hO.row.lt k hk).2⟩;have av:=Xk W8 p2;have aA:∀u∈([Z G p2]:List VL),u.oneCell'=true:=(by simp[Value.oneCell']);have bd:=Gh (n:=L) ao9;have ad:(L+1)*8<=140737488355328:=ao9;have a2:BW wc.heap.size wc (W8.alloc (J #[Z G p2] 3 (0,0))):=(aH.trans (a1.mono aH.size)).alloc (aH.trans (a1.mono aH.size)).size _;have aC:=a2.size;have e2:=a7.trans e;subst e2;replace⟨bB,bC,aJ,a1,bD,aB,bs,av⟩:=H8 bB bC aJ a1 bD aB bs av;replace⟨aA,bd,ad,a2,aC,h,e⟩:=H7 aA bd ad a2 aC h e;clear bJ;go_upto_region 9 with fail;rw[<-aK];clear aK;have b5:=Bk bD.out 1 (Z G p2) rfl;go_wp2_with (at_builtin;refine J6 _ rfl _ _ 31 rfl wc.heap.size 3 i3 _ 1 8 Nx bw.out bF.out aS.out aT.out rfl ad9 _ L _ rfl aB.out ⟨W8.heap.size,0,I⟩ 1 1 [Z G p2] rfl rfl av.out aA.out bd.out ad.out aC.out ?_;intro v1 w9 ac ao _;obtain⟨g9,bG,rfl⟩:=Joins.ownsRow_form ac ao9;replace⟨ac,ao⟩:=H2 ac ao);have bl:Aj w9 wc.heap.size (V (O ⟨g9,0,I⟩) (L+1) bG) ((x.pl.parts.take (i+1)).map Prod.snd):=(by rw[bC.out];refine⟨?_⟩;rw[Av,<-aJ.out];simpa[Bj]using ac.out);have bo:=a2.grown ao.out aC.out (λk hk=>(bs k hk).1);replace⟨bl,bo⟩:=H2 bl bo;go_wp2_with fail;go_roundw
   case rel=>exact⟨i+1,by go_num,ao9,bl.out,bo.out⟩
   case measure=>simp[intOf];omega
  .have bN:¬(i:Int)<x.pn:=ao9;have bx:(x.pl.parts.take i).map Prod.snd=x.pl.parts.map Prod.snd:=(by rw[Dd (by rw[aQ.out];omega)]);have bk:=hO.out;rw[bx]at bk;obtain⟨ho,hn,bO,rfl,-,aX,-⟩:=Ob bk;have b4:wr.cell? ⟨t,20,I⟩=O (V x.go x.gn x.gc):=am wr h 20;have af:=aX.len;rw[As,aQ.out]at af;have kG:=Ado bR n2 c2 l2 x.go x.gn x.gc x.pl.aj wr (aF.low aH.out) (s.aj.row.low h) hg.out ao9;clear bJ hO bk;replace⟨aX,bx,h,kG,af⟩:=H5 aX bx h kG af;go_wp2_with fail;refine kG.mono ?_;rintro e w7 ⟨v7,rfl,bL⟩;obtain⟨⟨bS,n3,c3,rfl,aU⟩,aN⟩:=bL;have bZ:n3<=1000000300000:=(by have h2:=aU.len;have h3:=J5 _ hg.out;have h4:=Oc (n:=x.gn) ao9;have h5:=s.aj.row.len;have h6:=aF.len;rw[Av,Av]at h2;omega);have kH:=Ado bS n3 c3 _ ho hn bO (x.pl.parts.map Prod.snd) w7 aU (aX.low aN) hp.out (by have:=af.out;omega);replace⟨aU,aN,kH⟩:=H3 aU aN kH;go_wp2_with fail;refine kH.mono ?_;rintro e w9 ⟨v9,rfl,be⟩
   have aM:fh w (l++Nw x.pl) v9 w9:=by
    refine⟨?_,h.trans ((aN.trans (be.low.mono aN.size)).mono h.size)⟩;have e1:l2++(B2 x.gn++zB x.pl.aj)++(B2 hn++zB (x.pl.parts.map Prod.snd))=l++Nw x.pl:=(by rw[aE.out,aD.out,hN.out];unfold Nw Al2 Or;rw[al.out,hy.out,s.after.row.len,s.aj.row.len,As,aQ.out,<-af.out];simp only[Fd]);rw[<-e1];exact be.own
   clear be;replace aM:=Hh aM;go_wp2_with fail;go_ret;exact⟨_,rfl,aM.out⟩
