/- Parts Nia, Wno. Plain theorems: no condition. -/
import Derived.Test.YtimlcnhcjndijaaGreatDoorQ42
import Derived.Test.YtimlcnhcjndijaaGreatDoorQ46
set_option linter.all false
set_option maxRecDepth 100000
set_option maxHeartbeats 6400000
namespace Go.Proofs.YtimlcnhcjndijaaGreatDoor
open Go.RowKit Go.Maps Go.Lib
def Ay1 {w w1:World} (h:Below w.heap.size w w1) (b:Nat) (a:w.heap.size<=b) (u v x:Value):Below w.heap.size w (((w1.setCell ⟨b,0,none⟩ u).setCell ⟨b,1,none⟩ v).setCell ⟨b,2,none⟩ x):=
 F8 (F8 (F8 h a) a) a
def Ay2 (x:cu) (w:World):Calls Tryz.prog 15 #[.pointer none,x.val] w fun e w'=>e=.returned (.tuple #[E1 ⟨0,0,0,0⟩,.int .i64 1])/\Below w.heap.size w w':=by
 have a:=re.new w x;obtain ⟨W0,g⟩:=Ex ((w.alloc (.cells x.cells 40 (0,0))).alloc (.cells #[.int .i64 0,.int .i64 0,.int .i64 0] 35 (0,0)));rw [<- g] at a;have h:=Ah3 x W0;obtain ⟨r,d⟩:∃ r:Int,r=1:=⟨_,rfl⟩;rw [<- d] at h;rw [<- d];have ac:(r != 0)=true:=by rw [d];rfl
 obtain ⟨⟨i,ah,tick,ag,seq,bp,attempt,node,bj⟩,so,m,sc,cq⟩:=x;obtain ⟨j,k,l,n,o,p,q,s,t,u⟩:=C10 a.box;(try dsimp only at j k l n o p q s t u);clear d;replace ⟨a,h⟩:=H2 a h;go_enter Tryz.func15,Tryz.ntmps15;go_upto_region 1 with fail;rw [<- g];clear g;go_upto_region 3 with (go_at_call 31;(with_reducible refine (h.out).mono ?_);rintro e w1 ⟨rfl,f⟩;replace f:=Hh f);clear j k l n o p q s t u;have c:=Ae f.out a.out.res (Ab a.out.res);have b:=a.out.low.trans (f.out.mono a.out.low.size);obtain ⟨y,z,r2⟩:=C3 c;(try dsimp only at y z r2);have fr:=Ah c;replace ⟨c,b⟩:=H2 c b;go_wp2_with fail;exact Ao (v:=.tuple #[E1 ⟨0,0,0,0⟩,.int .i64 r]) (by simp [results,Tryz.results15,go_sem,y,z,r2]) rfl ⟨rfl,Ay1 b.out _ (by omega) _ _ _⟩
def Ay3 (h:Int) (w:World):Calls Tryz.prog 16 #[.pointer none,.int .i64 h] w fun e w'=>e=.returned (.tuple #[ai.zero.val,.bool false])/\Below w.heap.size w w':=by
 obtain ⟨d,b⟩:=Ex (w.alloc (.cells Jz 46));have g:Below w.heap.size w d:=by rw [b];exact Bn
 have f:d.heap[w.heap.size]?=some (.cells ai.zero.cells 46 (0,0)):=by rw [b];exact Af _ _
 have c:Below w.heap.size w (d.setRow w.heap.size ai.zero.cells):=D9 g Ln _;have a:=Dp d w.heap.size _ ai.zero.cells 46 (0,0) f;replace ⟨g,f,c,a⟩:=H4 g f c a;go_enter Tryz.func16,Rj;go_upto_region 1 with fail;rw [<- b];clear b;go_wp2_with (refine Df rfl 46 _ _ rfl w.heap.size ai.zero.cells rfl rfl 46 _ f.out Cj rfl (Dz ai.zero) ?_);refine Ao (v:=.tuple #[ai.zero.val,.bool false]) ?_ rfl ⟨rfl,c.out⟩;exact Sn (p:=4) (t0:=5) rfl _ _ w.heap.size 46 ai.zero.cells (0,0) _ rfl a.out Np rfl Cj
def Ay4 (w:World):Calls Tryz.prog 30 #[.pointer none] w fun e w'=>e=.returned (.slice none 0 0)/\w'=w:=by
 go_enter Tryz.func30,Tryz.ntmps30;go_wp2;go_ret;exact ⟨rfl,rfl⟩
def Ay5 (node:Int) (w:World):Calls Tryz.prog 17 #[.pointer none,.int .i64 node] w fun e w'=>e=.returned V4.zero.val/\Below w.heap.size w w':=by
 have c:=F9.new w;obtain ⟨d,b⟩:=Ex ((w.alloc (.cells #[.int .i64 0,.int .i64 0,.int .i64 0,.int .i64 0] 30)).alloc (.cells #[.int .i64 0,.int .i64 0,.int .i64 0,.int .i64 0] 30));have a:F9 w V4.zero d:=by rw [b];exact c
 have j:=Bk a.vec 0 (.int .i64 0) rfl;have k:=Bk a.vec 1 (.int .i64 0) rfl;have l:=Bk a.vec 2 (.int .i64 0) rfl;have m:=Bk a.vec 3 (.int .i64 0) rfl;have f:=Bk a.res 0 (.int .i64 0) rfl;have g:=Bk a.res 1 (.int .i64 0) rfl;have h:=Bk a.res 2 (.int .i64 0) rfl;have i:=Bk a.res 3 (.int .i64 0) rfl;have fr:=Ah a.res;clear c;replace a:=Hh a;go_enter Tryz.func17,Tryz.ntmps17;go_upto_region 2 with fail;rw [<- b];clear b;go_wp2;refine Ao (v:=V4.zero.val) (by simp [results,Tryz.results17,go_sem,f,g,h,i,V4.zero]) rfl ⟨rfl,?_⟩;exact F8 (F8 (F8 (F8 a.out.low Ln) Ln) Ln) Ln
def xt:Mz ⟨#[]⟩=([],0,0):=by kernel_rfl
def Ay9 (w:World) (c:Mx w):Calls Tryz.prog 13 #[.string ⟨#[]⟩] w fun e w'=>e=.returned (.tuple #[.pointer (some ⟨w.heap.size+4,0,none⟩),.int .i64 0,.int .i64 0])/\Below w.heap.size w w'/\ir w' (w.heap.size+4) (w.heap.size+3) (w.heap.size+7) []:=
 (Ye ⟨#[]⟩ w c).mono fun e w' h=>by
  obtain ⟨p,a,d,b⟩:=h;rw [xt] at a b;rcases b with ⟨h1,_⟩ | ⟨_,rfl,f⟩
  .exact absurd rfl h1
  .exact ⟨a,d,f⟩
def Aza {w:World} {b:Nat} {x:cu} (c:w.heap[b]?=some (.cells x.cells 40 (0,0))) (d:x.ok w):Ai1 w (some ⟨b,0,none⟩) 1 [x]:=by
 refine ⟨rfl,by decide,fun i y a=>?_⟩;have h0:i=0:=by have:=(Aq.1 a).1;simp at this;exact this
 subst h0;injection a with a;subst a;refine ⟨b,0,rfl,Ab c,fun j f=>?_,d⟩;have e:0+0*10+j=j:=by omega
 rw [e,Aa c j]
def Azb {w:World} {b:Nat} (c:w.heap[b]?=some (.cells #[.int .u8 0,.int .u8 1,.int .u8 0,.int .u8 0] 5 (0,0))):Iv w (some ⟨b,0,none⟩) 4 [0,1,0,0]:=
 ⟨rfl,by decide,fun i x a=>⟨b,0,rfl,Ab c,by
  rw [D2,Aa c i]
  match i,a with
  | 0,a=>injection a with a;subst a;rfl
  | 1,a=>injection a with a;subst a;rfl
  | 2,a=>injection a with a;subst a;rfl
  | 3,a=>injection a with a;subst a;rfl
  | n+4,a=>simp at a⟩⟩
def Azc (o:Int) {w:World} {r:Nat} (h:ti w r):Calls Tryz.prog 16 #[.pointer (some ⟨r,0,none⟩),.int .i64 o] w fun e w'=>e=.returned (.tuple #[ai.zero.val,.bool false])/\Below w.heap.size w w':=by
 obtain ⟨m,p,a,t,b,s,c,u,k⟩:=h;obtain ⟨n,f⟩:=Ex (w.alloc (.cells Jz 46));have l:Below w.heap.size w n:=by rw [f];exact Bn
 have j:n.heap[w.heap.size]?=some (.cells ai.zero.cells 46 (0,0)):=by rw [f];exact Af _ _
 have g:Below w.heap.size w (n.setRow w.heap.size ai.zero.cells):=D9 l Ln _;have d:=Dp n w.heap.size _ ai.zero.cells 46 (0,0) j;have i:=Ae l k (Ab k);have x:=Bk i 4 (.slice b 0 s) rfl;by_cases q:o<1
 .replace ⟨l,j,g,d,k,i⟩:=H6 l j g d k i;go_enter Tryz.func16,Rj;go_upto_region 1 with fail;rw [<- f];clear f;go_wp2_with (refine Df rfl 46 _ _ rfl w.heap.size ai.zero.cells rfl rfl 46 _ j.out Cj rfl (Dz ai.zero) ?_);refine Ao (v:=.tuple #[ai.zero.val,.bool false]) ?_ rfl ⟨rfl,g.out⟩;exact Sn (p:=4) (t0:=5) rfl _ _ w.heap.size 46 ai.zero.cells (0,0) _ rfl d.out Np rfl Cj
 .have y:(0:Int)<o:=by omega
  replace ⟨l,j,g,d,k,i⟩:=H6 l j g d k i;go_enter Tryz.func16,Rj;go_upto_region 1 with fail;rw [<- f];clear f;go_wp2_with (refine Df rfl 46 _ _ rfl w.heap.size ai.zero.cells rfl rfl 46 _ j.out Cj rfl (Dz ai.zero) ?_);refine Ao (v:=.tuple #[ai.zero.val,.bool false]) ?_ rfl ⟨rfl,g.out⟩;exact Sn (p:=4) (t0:=5) rfl _ _ w.heap.size 46 ai.zero.cells (0,0) _ rfl d.out Np rfl Cj
def Azd {w:World} {f:Nat} (h:ti w f):Calls Tryz.prog 28 #[.pointer (some ⟨f,0,none⟩)] w fun e w'=>e=.returned (.int .i64 (-1))/\w'=w:=by
 obtain ⟨m,p,a,g,b,i,c,j,d⟩:=h;have k:=Bk d 1 (.int .i64 (-1)) rfl;replace d:=Hh d;go_enter Tryz.func28,Tryz.ntmps28;go_wp2;go_ret;exact ⟨rfl,rfl⟩
def ti.low {w w':World} {d:Nat} (h:ti w d) (f:Below w.heap.size w w'):ti w' d:=by
 obtain ⟨m,p,a,g,b,i,c,j,e⟩:=h;exact ⟨m,p,a,g,b,i,c,j,Ae f e (Ab e)⟩
structure va (w:World) (x:cu) (rb:Nat) (W:World):Prop where
 low:Below w.heap.size w W
 box:W.heap[w.heap.size]?=some (.cells x.cells 40 (0,0))
 res:W.heap[rb]?=some (.cells #[.int .i64 0,.int .i64 0,.int .i64 0] 35 (0,0))
 mx:Mx W
def va.next {w W b:World} {x:cu} {c:Nat} (h:va w x c W) (a:Below W.heap.size W b):va w x c b:=
 ⟨h.low.trans (a.mono h.low.size),Ae a h.box (Ab h.box),Ae a h.res (Ab h.res),h.mx.low a⟩
def Aze (w:World) (hm:Mx w) (x:cu) (hx:x.ok w) (i:Int):Calls Tryz.prog 11 #[x.val,.int .i64 i] w fun e w'=>e=.returned (.bool true)/\Below w.heap.size w w':=by
 obtain ⟨W0,aQ⟩:=Ex (w.alloc (.cells x.cells 40 (0,0)));have b0:Below w.heap.size w W0:=by rw [aQ];exact Bn
 have h0:W0.heap[w.heap.size]?=some (.cells x.cells 40 (0,0)):=by rw [aQ];exact Af _ _
 have a2:=Aip W0 (hm.low b0);obtain ⟨x',aR⟩:=Ex (x);obtain ⟨⟨av,ah,tick,ag,seq,bp,attempt,node,bj⟩,so,m,sc,cq⟩:=x;rw [<- aR] at h0 hx;replace ⟨b0,h0,a2,hm,hx,aR⟩:=H6 b0 h0 a2 hm hx aR;go_enter Tryz.func11,Tryz.ntmps11;go_upto_region 1 with fail;rw [<- aQ];clear aQ;go_wp2_with fail;refine a2.out.mono ?_;rintro e w1 ⟨rfl,b1⟩;have h1:=Ae b1 h0.out (Ab h0.out);have b:=b0.out.trans (b1.mono b0.out.size);have b2:Below w1.heap.size w1 (w1.alloc (.cells x'.cells 40)):=Bn;have aS:=Ay0 (some ⟨w1.heap.size,0,none⟩) 1 1 [x'] (Aza (w:=w1.alloc (.cells x'.cells 40)) (Af _ _) (hx.out.low (b.trans (b2.mono b.size))));rw [aR.out] at h1 b2 aS;obtain ⟨e0,e1,e2,e3,e4,e5,e6,e7,e8,e9⟩:=C10 h1;(try dsimp only at e0 e1 e2 e3 e4 e5 e6 e7 e8 e9);replace ⟨b1,h1,b,b2,aS⟩:=H5 b1 h1 b b2 aS;go_wp2_with fail;refine aS.out.mono ?_;rintro g w3 ⟨bb,rfl,-,b3⟩;have a:=b.out.trans ((b2.out.trans (b3.mono b2.out.size)).mono b.out.size);have aA:=b2.out.trans (b3.mono b2.out.size);have h3:=Ae aA h1.out (Ab h1.out);clear e0 e1 e2 e3 e4 e5 e6 e7 e8 e9;cases bb
 .replace ⟨a,h3,aA,b3⟩:=H4 a h3 aA b3;go_wp2_with fail;go_ret;exact ⟨rfl,a.out⟩
 have ka:=Ay2 ⟨⟨av,ah,tick,ag,seq,bp,attempt,node,bj⟩,so,m,sc,cq⟩ w3;obtain ⟨e0,e1,e2,e3,e4,e5,e6,e7,e8,e9⟩:=C10 h3;(try dsimp only at e0 e1 e2 e3 e4 e5 e6 e7 e8 e9);replace ⟨a,h3,aA,b3,ka⟩:=H5 a h3 aA b3 ka;go_wp2_with fail;refine ka.out.mono ?_;rintro g w4 ⟨rfl,b4⟩;clear e0 e1 e2 e3 e4 e5 e6 e7 e8 e9;replace b4:=Hh b4;go_upto_region 9 with fail;obtain ⟨rb,a3⟩:=Ex (w4.heap.size);obtain ⟨W5,aT⟩:=Ex (w4.alloc (.cells #[.int .i64 0,.int .i64 0,.int .i64 0] 35 (0,0)));have b5:Below w4.heap.size w4 W5:=by rw [aT];exact Bn
 have a4:va w ⟨⟨av,ah,tick,ag,seq,bp,attempt,node,bj⟩,so,m,sc,cq⟩ rb W5:=by have a5:=b4.out.trans (b5.mono b4.out.size);exact ⟨a.out.trans (a5.mono a.out.size),Ae a5 h3.out (Ab h3.out),by rw [aT,a3];exact Af _ _,hm.out.low (a.out.trans (a5.mono a.out.size))⟩
 rw [<- aT,<- a3];clear aT a3;have kj:=Ay3 i W5;replace ⟨b5,a4,kj⟩:=H3 b5 a4 kj;go_wp2_with fail;refine kj.out.mono ?_;rintro g w6 ⟨rfl,b6⟩;have a6:=a4.out.next b6;have aU:(w6.alloc (.cells Jz 46 (0,0))).heap[w6.heap.size]?=some (.cells ai.zero.cells 46 (0,0)):=Af _ _;replace ⟨b6,a6,aU⟩:=H3 b6 a6 aU;go_upto_region 10 with (refine Df rfl 46 _ _ rfl w6.heap.size ai.zero.cells rfl rfl 46 _ aU.out Cj rfl (Dz ai.zero) ?_);obtain ⟨W7,hW⟩:=Ex ((w6.alloc (.cells Jz 46 (0,0))).setRow w6.heap.size ai.zero.cells);obtain ⟨jb,a7⟩:=Ex (w6.heap.size);have aV:Below w6.heap.size w6 W7:=by rw [hW];exact D9 Bn Ln _
 have aW:W7.heap[jb]?=some (.cells ai.zero.cells 46 (0,0)):=by rw [hW,a7];exact Dp _ _ _ _ 46 (0,0) aU.out
 rw [<- hW,<- a7];clear hW a7;have a8:=a6.out.next aV;have kn:=At4 i W7;have kl:=Auc i W7;replace ⟨a8,aW,kn,kl,aV⟩:=H5 a8 aW kn kl aV;go_wp2_with fail;refine kn.out.mono ?_;rintro g w8 ⟨rfl,rfl⟩;go_wp2_with fail;refine kl.out.mono ?_;rintro g w9 ⟨rfl,b9⟩;have a9:=a8.out.next b9;have aX:=Ae b9 aW.out (Ab aW.out);replace ⟨b9,a9,aX⟩:=H3 b9 a9 aX;clear aV;go_upto_region 12 with fail;obtain ⟨sb,ba⟩:=Ex (w9.heap.size);obtain ⟨aY,j⟩:=Ex (w9.alloc (.cells #[.int .i64 Cl.zero.e,.int .i64 Cl.zero.first,.int .i64 Cl.zero.last] 35 (0,0)));have aZ:Below w9.heap.size w9 aY:=by rw [j];exact Bn
 have k:aY.heap[sb]?=some (.cells #[.int .i64 0,.int .i64 0,.int .i64 0] 35 (0,0)):=by rw [j,ba];exact Af _ _
 have l:=a9.out.next aZ;have n:=Ae aZ aX.out (Ab aX.out);rw [<- j,<- ba];clear j ba;have kt:=Ay7 aY;have kr:=Ay9 aY l.mx;replace ⟨aZ,k,l,n,kt,kr⟩:=H6 aZ k l n kt kr;go_wp2_with fail;refine kt.out.mono ?_;rintro g bf ⟨rfl,rfl⟩;go_wp2_with fail;refine kr.out.mono ?_;rintro g aB ⟨rfl,aC,aD⟩;have aE:=l.out.next aC;have o:=Ae aC n.out (Ab n.out);have p:=Ae aC k.out (Ab k.out);obtain ⟨bc,c⟩:=Ex (aB.alloc (.cells #[.int .u8 0,.int .u8 1,.int .u8 0,.int .u8 0] 5));have d:Below aB.heap.size aB bc:=by rw [c];exact Bn
 have aF:bc.heap[aB.heap.size]?=some (.cells #[.int .u8 0,.int .u8 1,.int .u8 0,.int .u8 0] 5 (0,0)):=by rw [c];exact Af _ _
 have kf:=Ay8 (aD.below d) Yj (bb:=aB.heap.size) (Azb aF);have aG:=aE.next d;have q:=Ae d o (Ab o);have r:=Ae d p (Ab p);rw [c] at kf;replace ⟨aC,aD,aE,o,p,d,aF,kf⟩:=H8 aC aD aE o p d aF kf;replace ⟨aG,q,r,c⟩:=H4 aG q r c;go_wp2_with fail;refine kf.out.mono ?_;rintro g bg ⟨tb,rfl,s,am⟩;rw [<- c.out] at am;have aH:=aG.out.next am;have t:=Ae am q.out (Ab q.out);have u:=Ae am r.out (Ab r.out);have kj:=Azc i s;replace ⟨s,am,aH,t,u,kj⟩:=H6 s am aH t u kj;go_wp2_with fail;refine kj.out.mono ?_;rintro g h ⟨rfl,an⟩;have aI:=aH.out.next an;have aJ:=s.out.low an;have v:=Ae an t.out (Ab t.out);have y:=Ae an u.out (Ab u.out);have aK:(h.alloc (.cells Jz 46 (0,0))).heap[h.heap.size]?=some (.cells ai.zero.cells 46 (0,0)):=Af _ _;have f:∃ W,W=(h.alloc (.cells Jz 46 (0,0))).setRow h.heap.size ai.zero.cells:=⟨_,rfl⟩;obtain ⟨bd,f⟩:=f;have ao:Below h.heap.size h bd:=by rw [f];exact D9 Bn Ln _
 have z:=aI.next ao;have aL:=aJ.low ao;have ac:=Ae ao v (Ab v);have ad:=Ae ao y (Ab y);obtain ⟨e0,e1,e2,e3,e4,e5,e6,e7,e8,e9⟩:=C10 z.box;(try dsimp only at e0 e1 e2 e3 e4 e5 e6 e7 e8 e9);have kw:=Ah3 ⟨⟨av,ah,tick,ag,seq,bp,attempt,node,bj⟩,so,m,sc,cq⟩ bd;replace ⟨an,aI,aJ,v,y,aK,ao,z⟩:=H8 an aI aJ v y aK ao z;replace ⟨aL,ac,ad,kw⟩:=H4 aL ac ad kw
 go_wp2_with (first
  | (refine Df rfl 46 _ _ rfl h.heap.size ai.zero.cells rfl rfl 46 _ aK.out Cj rfl (Dz ai.zero) ?_;rw [<- f]
     clear f)
  | fail)
 refine kw.out.mono ?_;rintro g a0 ⟨rfl,ap⟩;have al:=z.out.next ap;have aM:=aL.out.low ap;have aN:=Ae ap ac.out (Ab ac.out);have aO:=Ae ap ad.out (Ab ad.out);clear e0 e1 e2 e3 e4 e5 e6 e7 e8 e9;obtain ⟨r0,r1,r2⟩:=C3 al.res;(try dsimp only at r0 r1 r2);obtain ⟨s0,s1,s2⟩:=C3 aO;(try dsimp only at s0 s1 s2);have j0:=Bk aN 0 (.int .i64 0) rfl;have k1:=At2 a0;have k2:=At3 a0;have k3:=Aue a0;have k4:=Ay5 i a0;replace ⟨ap,al,aM,aN,aO,k1,k2,k3⟩:=H8 ap al aM aN aO k1 k2 k3;replace k4:=Hh k4;go_wp2_with fail;refine k1.out.mono ?_;rintro g bi ⟨rfl,rfl⟩;go_wp2_with fail;refine k2.out.mono ?_;rintro g bk ⟨rfl,rfl⟩;go_wp2_with fail;refine k3.out.mono ?_;rintro g bl ⟨rfl,rfl⟩;go_wp2_with fail;refine k4.out.mono ?_;rintro g be ⟨rfl,a1⟩;have hq:∀ W:World,(Op.equalIn 10000 30 V4.zero.val (.agg #[.int .i64 0,.int .i64 0,.int .i64 0,.int .i64 0])).run Tryz.prog W=.ok true W:=fun W=>(Te V4.zero ⟨0,0,0,0⟩ W).trans (by simp [V4.zero]);have k5:=Ay4 be;have k6:=Ag5 be;have k7:=Azd (aM.out.low a1);have aP:=(al.out.next a1).low;clear r0 r1 r2 s0 s1 s2 j0;replace ⟨a1,k5,k6,k7,aP⟩:=H5 a1 k5 k6 k7 aP;go_wp2_with fail;refine k5.out.mono ?_;rintro g bn ⟨rfl,rfl⟩;go_wp2_with fail;refine k6.out.mono ?_;rintro g bs ⟨rfl,rfl⟩;go_wp2_with fail;refine k7.out.mono ?_;rintro g bv ⟨rfl,rfl⟩;go_wp2_with fail;go_ret;exact ⟨rfl,aP.out⟩
end Go.Proofs.YtimlcnhcjndijaaGreatDoor
