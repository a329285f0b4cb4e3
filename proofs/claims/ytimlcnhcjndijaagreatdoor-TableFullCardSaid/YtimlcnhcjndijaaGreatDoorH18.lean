/- Parts of a proof. No condition. -/
import Derived.Test.YtimlcnhcjndijaaGreatDoorH14
import Derived.Test.YtimlcnhcjndijaaGreatDoorH17
set_option linter.all false
set_option maxRecDepth 100000
set_option maxHeartbeats 3200000
namespace Go.Proofs.YtimlcnhcjndijaaGreatDoor
open Option renaming none->I,some->O
open Value renaming pointer->K,int->Z,slice->V,bool->Y,string->E
open IntKind renaming i64->G
open Ending renaming returned->Q
open Obj renaming cells->J
open Go renaming World->WD,Calls->CS
open Go.RowKit renaming Below->BW
open Go.Proofs.Tryz
section
open Go.RowKit Go.Maps Go.Lib
variable{js:List (Nat×aq)}{cap g i:Nat}{T:Tv}{w w' w1 wr:WD}
def Mb (s:dn) (after:List Int) (id:Int):Jb:=⟨id,{ s with array:=1,after:=after },(J9 s.ae s.held).1,-1,[],[]⟩
def Fm (s:dn) (after:List Int) (js:List Jb):Nat->List Jb
 | 0=>js
 | n+1=>Fm s after js n++[Mb s after ((js.length+n+1:Nat):Int)]
def Eb:List (dn×List Int)->List Jb->List Jb
 | [],js=>js
 | p :: l,js=>Eb l (Fm p.1 p.2 js p.1.array.toNat)
def F6 (l:List dn):Int:=(l.map λs=>s.array).foldl (·+·) 0
def Sn (ns:List Ej) (i:Int):Ej:=(ns[i.toNat]?).getD ⟨false,false,-1⟩
def Lb (t:dv) (e:de):Int:=
 if (t.nodes.length:Int)<=e.node then 142
 else if e.kind=8\/e.kind=9 then(if e.tick<t.tick then 141 else if (Sn t.nodes e.node).up≠decide (e.kind=8)then 100 else 0)
 else if e.kind=10\/e.kind=11 then(if (Sn t.nodes e.node).bq≠decide (e.kind=11)then 100 else 0)
 else 0
def Fn (js:List Jb) (id:Int):Jb:=(js[(id-1).toNat]?).getD ⟨0,dn.zero,Lf.zero,0,[],[]⟩
def Ju (t:dv) (e:de):Int:=
 if (t.ab.length:Int)<e.cq then 90
 else if e.kind≠7 then(Ay (Fn t.ab e.cq).lf (Gn e.kind)).2
 else if Gj (Fn t.ab e.cq) e.attempt e.node=I then 100 else 0
def dv.dx (t:dv) (js:List Jb):dv:={ t with ab:=js }
def Fo (js:List Jb) (id:Int) (f:Jb->Jb):List Jb:=js.modify (id-1).toNat f
def Mc (s:Int) (j:Jb):Jb:=if di (j.move s).lf.st=true then j.move s else(j.move s).bare
def Ags (t:dv) (e:de):dv×Cl:=(t.dx (Co (Fo t.ab e.cq (Mc (Gn e.kind)))),⟨0,0,e.cq,e.cq⟩)
def Md (e:de) (j:Jb):Jb:=match Gj j e.attempt e.node with
 | none=>j
 | some k=>Fe j k e.br
def Agt (t:dv) (e:de):dv:=t.dx (I7 (Fo t.ab e.cq (Md e)))
def Qp (t:dv) (e:de):dv:=
 if e.kind=8 then { t with nodes:=t.nodes.modify e.node.toNat (λn=>⟨false,n.bq,n.since⟩),ab:=I7 (t.ab.map λj=>Ff j e.node) }
 else if e.kind=9 then { t with nodes:=t.nodes.modify e.node.toNat (λn=>⟨true,n.bq,e.tick⟩) }
 else { t with nodes:=t.nodes.modify e.node.toNat (λn=>⟨n.up,decide (e.kind=10),n.since⟩) }
def Kj (j:Jb):V4:=Uf { j.sp with after:=[] }
def Dq (js:List Jb):List en:=(js.filter λj=>j.live).map λj=>⟨j.sp.user,Kj j⟩
def Gz (js:List Jb):List (List Int×V4×Int):=(js.filter λj=>j.live).map λj=>((j.parts.filter λp=>decide (p.2=0)).map Prod.fst,j.sp.df,K6 j)
def Bq (js:List Jb):List dh:=(js.filter λj=>Jp js j).map λj=>⟨j.id,j.sp.user,j.sp.prio,Kj j⟩
def Ih (t:Int) (j:Jb):Jb:=if j.live=true/\K6 j<=t then Ff j (-1)else j
def ui (t:dv):List Bool:=t.nodes.map λn=>n.up && !n.bq && decide (n.since<t.tick)
def Ii (j:Jb):Jb:=if j.lf.st=1 then j.bare else j
def Lc (tick st:Int) (zs:List Int) (j:Jb):Jb:=
 if st=tick then⟨j.id,j.sp,(Ay j.lf 3).1,st,zs,j.parts++zs.map λn=>(n,0)⟩else⟨j.id,j.sp,j.lf,st,zs,j.parts⟩
def Jc (tick:Int):List (Int×Int×List Int)->List Jb->List Jb
 | [],js=>js
 | s :: l,js=>Jc tick l (Fo js s.1 (Lc tick s.2.1 s.2.2))
def Aci (j:Jb):Prop:=-1<=j.start/\j.start<=1099511627776/\0<=j.sp.wall/\j.sp.wall<=1099511627776
def Ajo  {b:Nat} {x:aq} (d:Ba w b x) (k:Aci x.pl):CS prog 132 #[K (O ⟨b,0,I⟩)] w λe w'=>e=Q (Z G (K6 x.pl))/\∃n,w'=w.drewN n:=by
 obtain⟨h1,h,i,j⟩:=k;obtain⟨s,a⟩:=Ex (x.pl.start);obtain⟨v,c⟩:=Ex (x.pl.sp.wall);have g:w.cell? ⟨b,19,I⟩=O (Z G s):=by rw[a];exact Aa d 19
 have l:w.cell? ⟨b,8,I⟩=O (Z G v):=by rw[c];exact Aa d 8
 have f:K6 x.pl=s+8+v:=by rw[a,c];rfl
 rw[<-a]at h1 h;rw[<-c]at i j;have w1:IntKind.i64.wrap (s+8)=s+8:=Im ao9 ao9;have m:IntKind.i64.wrap (s+8+v)=s+8+v:=Im ao9 ao9;replace⟨d,f,a,c⟩:=H4 d f a c;go_enter func132,ntmps132;go_upto_region 1 with fail;go_quiet (fail);go_wp2_with fail;go_ret;exact⟨by rw[f.out];rfl,_,rfl⟩
def Ajp  {b:Nat} {x:aq} {S:Nat->Prop} (k:Ba w b x) (s:Nb w S x):CS prog 184 #[K (O ⟨b,0,I⟩)] w λe w'=>e=Q (Kj x.pl).val/\BW w.heap.size w w':=by
 obtain⟨⟨id,⟨g,d,nodes,⟨u,y,z,dd⟩,h,f,array,t,c,after⟩,lf,start,aj,parts⟩,so,sn,sc,go,gn,gc,po,pn,pc⟩:=x;obtain⟨⟨na,nb,nc,nd⟩,r⟩:∃v,v=Uf ⟨g,d,nodes,⟨u,y,z,dd⟩,h,f,array,t,c,[]⟩:=⟨_,rfl⟩
 have kn:∀W,CS prog 234 #[.agg #[E g,E d,Z G nodes,Z G u,Z G y,Z G z,Z G dd,Z G h,Z G f,Z G array,Z G t,Y c,V I 0 0]] W λe w'=>e=Q (.agg #[Z G na,Z G nb,Z G nc,Z G nd])/\BW W.heap.size W w':=λW=>by
  have:=Apk ⟨⟨g,d,nodes,⟨u,y,z,dd⟩,h,f,array,t,c,[]⟩,I,0,0⟩ W ⟨Qi W,Nat.le_refl _,s.user,s.part⟩;rw[<-r]at this;exact this
 have y1:=Bk k 1 (E g) rfl;have y2:=Bk k 2 (E d) rfl;have y3:=Bk k 3 (Z G nodes) rfl;have y4:=Bk k 4 (Z G u) rfl;have y5:=Bk k 5 (Z G y) rfl;have y6:=Bk k 6 (Z G z) rfl;have y7:=Bk k 7 (Z G dd) rfl;have y8:=Bk k 8 (Z G h) rfl;have y9:=Bk k 9 (Z G f) rfl;have al:=Bk k 10 (Z G array) rfl;have am:=Bk k 11 (Z G t) rfl;have an:=Bk k 12 (Y c) rfl;have ao:=Bk k 13 (V so sn sc) rfl;have av:=Ac k;obtain⟨W1,l⟩:=Ex ((w.alloc (J #[Z G 0,Z G 0,Z G 0,Z G 0] 30)).alloc (J #[E g,E d,Z G nodes,Z G u,Z G y,Z G z,Z G dd,Z G h,Z G f,Z G array,Z G t,Y c,V so sn sc] 33));have n:BW w.heap.size w W1:=by rw[l];exact Bn.alloc as9 _
 have o:W1.heap[w.heap.size]?=O (J #[Z G 0,Z G 0,Z G 0,Z G 0] 30 (0,0)):=by rw[l];exact Ak _ (Ah _ _)
 have p:W1.heap[w.heap.size+1]?=O (J #[E g,E d,Z G nodes,Z G u,Z G y,Z G z,Z G dd,Z G h,Z G f,Z G array,Z G t,Y c,V so sn sc] 33 (0,0)):=by rw[l];exact A2 _ _ as9
 have hz:(Kj ⟨id,⟨g,d,nodes,⟨u,y,z,dd⟩,h,f,array,t,c,after⟩,lf,start,aj,parts⟩)=⟨na,nb,nc,nd⟩:=r.symm;have ap:=Bk p 12 (V so sn sc) rfl;have fz:=Ag p;obtain⟨W2,m⟩:=Ex (W1.setCell ⟨w.heap.size+1,12,I⟩ (V I 0 0));have i:BW w.heap.size w W2:=by rw[m];exact Db n ao9
 have a:W2.heap[w.heap.size]?=O (J #[Z G 0,Z G 0,Z G 0,Z G 0] 30 (0,0)):=by rw[m];exact(Ci _ _ _ _ (λe=>by simp at e)).trans o
 have q:W2.heap[w.heap.size+1]?=O (J #[E g,E d,Z G nodes,Z G u,Z G y,Z G z,Z G dd,Z G h,Z G f,Z G array,Z G t,Y c,V I 0 0] 33 (0,0)):=by rw[m];have:=Am p 12 (V I 0 0);simpa using this
 replace⟨k,s,r,kn,n,o,p,hz⟩:=H8 k s r kn n o p hz;replace⟨i,a,q⟩:=H3 i a q;go_enter func184,ntmps184;go_upto_region 2 with fail;rw[<-l];clear l y1 y2 y3 y4 y5 y6 y7 y8 y9 al am an ao;go_upto_region 3 with fail;rw[<-m];clear m ap fz;obtain⟨s0,s1,s2,s3,s4,s5,s6,s7,s8,s9,ac,ad,af⟩:=C13 q.out;(try dsimp only at s0 s1 s2 s3 s4 s5 s6 s7 s8 s9 ac ad af);go_wp2_with (go_at_call 234;(with_reducible refine(kn.out _).mono ?_);rintro e w3 ⟨rfl,j⟩;have r0:w3.cell? ⟨w.heap.size,0,I⟩=O (Z G 0):=Aa (Ae j a.out (Ac a.out)) 0;have r1:w3.cell? ⟨w.heap.size,1,I⟩=O (Z G 0):=Aa (Ae j a.out (Ac a.out)) 1;have r2:w3.cell? ⟨w.heap.size,2,I⟩=O (Z G 0):=Aa (Ae j a.out (Ac a.out)) 2;have r3:w3.cell? ⟨w.heap.size,3,I⟩=O (Z G 0):=Aa (Ae j a.out (Ac a.out)) 3;have fr:=Ag (Ae j a.out (Ac a.out));replace j:=Hh j);refine An (v:=V4.val ⟨na,nb,nc,nd⟩) (by simp[results,results184,go_sem,r0,r1,r2,r3]) rfl ⟨by rw[hz.out],?_⟩;exact Db (Db (Db (Db (i.trans (j.mono i.size)) ao9) ao9) ao9) ao9
def Avx:∀args w,(callFunc 247 args).run prog w=.ok (.enter 247 args) w:=Iy func247 ad9 (by simp[f247])
def Avy   (h:Al w T) (f:Nat) (c:w.cell? ⟨f,0,I⟩=O (K (O ⟨T.tb,0,I⟩))) (k:Nat) (n:k<T.js.length) :
  CS prog 247 (#[Z G ((k:Int)+1)]++#[K (O ⟨f,0,I⟩)]) w λe w'=>e=Q (Y (!decide (Ly T.pl.ab ((k:Int)+1)=5)))/\w'=w:=by
 obtain⟨j,b⟩:=Ge T.js k n;rw[Age b];obtain⟨g,cap,i,r,z,_⟩:=h.jf b;obtain⟨tb,q⟩:=Ex (T.tb);obtain⟨jb,a⟩:=Ex (j.1);obtain⟨m,o⟩:=Ex (T.js.length);obtain⟨s,d⟩:=Ex (j.2.pl.lf.st);have cs:w.cell? ⟨j.1,14,I⟩=O (Z G j.2.pl.lf.st):=Aa (h.box j (Ai b)) 14
 have p:m<=9223372036854775807:=by
  rcases h.ab.2 with⟨_,u⟩|⟨g',l,t,u,_,_,h1,v,_⟩
  .omega
  .unfold maxLen at v;omega
 rw[<-a,<-d]at cs;rw[<-q]at i c;rw[<-o]at i n;rw[<-a]at r;rw[<-d];have y:(k:Int)<m:=ao9
 have x:(0:Int)<=(k:Int):=ao9
 clear q a o d h b;go_enter func247,ntmps247;go_wp2_with fail;go_ret;exact⟨by first|rfl|(congr 1;congr 1;simp[bne];rfl)|simp[bne],rfl⟩
abbrev Gu (c:Cl):Value:=.agg #[Z G c.e,Z G c.first,Z G c.last]
def Acm (w:WD) (T:Tv) (X:List Jb) (c:Cl) (e:Ending) (w':WD):Prop:=e=Q (Gu c)/\∃js,Bp w T js w'/\js.map (λj=>j.2.pl)=X
structure td (w:WD) (x:dt) (wr:WD):Prop where
 low:BW w.heap.size w wr
 box:wr.heap[w.heap.size]?=O (J x.cells 40 (0,0))
 res:wr.heap[w.heap.size+1]?=O (J #[Z G 0,Z G 0,Z G 0] 35 (0,0))
def td.new (w:WD) (x:dt):td w x ((w.alloc (J x.cells 40 (0,0))).alloc (J #[Z G 0,Z G 0,Z G 0] 35 (0,0))):=
 ⟨Bn.alloc as9 _,Ak _ (Ah _ _),A2 _ _ as9⟩
structure Cf (w:WD) (T:Tv) (x:dt) (js:List (Nat×aq)) (wr:WD):Prop where
 tab:Bp w T js wr
 box:wr.heap[w.heap.size]?=O (J x.cells 40 (0,0))
 res:wr.heap[w.heap.size+1]?=O (J #[Z G 0,Z G 0,Z G 0] 35 (0,0))
def Cf.new   (h:Al w T) (x:dt):Cf w T x T.js ((w.alloc (J x.cells 40 (0,0))).alloc (J #[Z G 0,Z G 0,Z G 0] 35 (0,0))):=
 ⟨(Bp.refl h).low (td.new w x).low,(td.new w x).box,(td.new w x).res⟩
def Cf.low   {x:dt}  (h:Cf w T x js wr) (a:BW wr.heap.size wr w'):Cf w T x js w':=⟨h.tab.low a,Ae a h.box (Ac h.box),Ae a h.res (Ac h.res)⟩
def Cf.then   {x:dt} {js a:List (Nat×aq)} (h:Cf w T x js wr) (b:Bp wr { T with js:=js } a w'):Cf w T x a w':=
 ⟨h.tab.then b,b.mod.ar h.box (h.tab.at_.off h.box ad9 ad9 ad9 ad9 ad9),b.mod.ar h.res (h.tab.at_.off h.res ad9 ad9 ad9 ad9 ad9)⟩
def Cf.dj   {e:dt}  (h:Cf w T e js wr) {i b:Nat} {x y:aq} (g:js[i]?=O (b,x)) (d:Mod (F3 (b,x)) wr w') (a:Ba w' b y) (f:Bo w' y) (c:Gy x y):Cf w T e (js.set i (b,y)) w':=
 h.then ((Bp.refl (T:={ T with js:=js }) h.tab.at_).dj g d a f c)
def Cf.qj   {x:dt}  (h:Cf w T x js wr) (h0:Al w T) (a b c:Value):Bp w T js (((wr.setCell ⟨w.heap.size+1,0,I⟩ a).setCell ⟨w.heap.size+1,1,I⟩ b).setCell ⟨w.heap.size+1,2,I⟩ c):=
 h.tab.el h0 h.res ((((Mod.refl (λk=>k=w.heap.size+1) wr).set _ 0 a rfl).set _ 1 b rfl).set _ 2 c rfl) ao9 ad9 ad9 ad9 ad9 ad9 ad9
def Aws (s:Int) (j:Jb):(Mc s j).sp=j.sp:=by
 unfold Mc
 split<;>rfl
def Ajy (js:List Jb) (i:Nat) (f:Jb->Jb) (a:∀j,(f j).sp=j.sp):(js.modify i f).map Jb.sp=js.map Jb.sp:=by
 apply Eg;intro k;simp only[Bm,Fc]
 cases js[k]? with
 | none=>rfl
 | some j=>
  simp only[J8];split
  .exact Ca O (a j)
  .rfl
def Awt   (x:dt) (h:Al w T) (ha:D3 T.pl.ab) (k:Nat) (hk:k<T.js.length) (hj:x.n.cq=(k:Int)+1) :
  CS prog 86 #[K (O ⟨T.tb,0,I⟩),x.val] w (Acm w T (Co (Fo T.pl.ab x.n.cq (Mc (Gn x.n.kind)))) ⟨0,0,x.n.cq,x.n.cq⟩):=by
 have t:=Cf.new h x;obtain⟨W0,aC⟩:=Ex ((w.alloc (J x.cells 40 (0,0))).alloc (J #[Z G 0,Z G 0,Z G 0] 35 (0,0)));rw[<-aC]at t;obtain⟨j,d⟩:=Ge T.js k hk;obtain⟨g,cap,c4,cj,aL,_⟩:=t.tab.at_.jf d;have aI:W0.cell? ⟨T.tb,4,I⟩=O (V (O ⟨g,0,I⟩) T.js.length cap):=c4;have aJ:T.js.length<=9223372036854775807:=by obtain⟨_,_,_,_,hm,_⟩:=h.mr;exact hm
 obtain⟨i,b⟩:=j;obtain⟨tb,ht⟩:=Ex (T.tb);obtain⟨m,hm⟩:=Ex (T.js.length);obtain⟨s,hs⟩:=Ex (Gn x.n.kind)
 have aG:1<=s/\s<=8:=by rw[hs];unfold Gn;split<;>(try split)<;>omega
 have ks:=λW=>Agp x.n.kind W;rw[<-hs]at ks;obtain⟨l,hl⟩:=Ex ((Ay b.pl.lf s).1);have av:=λ(W:WD) (hW:Ba W i b)=>Sl hW s aG;rw[<-hl]at av;obtain⟨X1,ad⟩:=Ex (Fo T.pl.ab x.n.cq (Mc s));have o:X1=T.pl.ab.modify k (Mc s):=by rw[ad,hj];unfold Fo;rw[show((k:Int)+1-1).toNat=k by omega]
 have am:D3 X1:=by rw[o];exact Qo ha (Ajy _ _ _ (Aws s))
 have p:Mc s b.pl=if di l.st=true then(b.bm l).pl else(b.bm l).bare.pl:=by rw[hl];rfl
 rw[<-hs,<-ad,<-ht];rw[<-ht,<-hm]at aI;have kl:=λW=>Qm l.st W;obtain⟨q,hq⟩:=Ex (di l.st);rw[<-hq]at kl p;obtain⟨⟨kd,ep,tk,cl,sq,jn,an,nn,hw⟩,so,sn,sc,dm⟩:=x;simp only at hj ad ks;subst hj;have e0:=Bk t.box 0 (Z G kd) rfl;have e5:=Bk t.box 5 (Z G ((k:Int)+1)) rfl;have aN:(k:Int)<m:=ao9
 have aM:(0:Int)<=(k:Int):=ao9
 rw[hm.symm]at aJ;replace⟨h,ha,t,d,ht,hm,hs,aG⟩:=H8 h ha t d ht hm hs aG;replace⟨ks,hl,av,ad,o,am,p,kl⟩:=H8 ks hl av ad o am p kl;replace hq:=Hh hq;clear c4 aL hk;go_enter func86,ntmps86;go_wp2_with fail;rw[<-aC];clear aC;go_quiet (fail);rename_i nq;have ac:=t.low (⟨rfl,rfl,rfl,Nat.le_refl _,λ_ _=>rfl⟩:BW W0.heap.size W0 (W0.drewN nq));have aF:=av _ (ac.tab.get d.out).1;replace⟨ac,aF⟩:=H2 ac aF;go_wp2_with fail;refine(ks _).mono ?_;rintro e w1 ⟨rfl,rfl⟩;go_wp2_with fail;refine aF.mono ?_;rintro e w2 ⟨rfl,af,ao⟩;have al:=(ac.tab.get d.out).2
 have c:Cf w T _ (T.js.set k (i,b.bm l)) w2:=
  ac.dj d.out (Pa ao) af (Um (x:=b) (ac.tab.get d.out).1 al.parts ao) (Xw _ _)
 have aK:=Bk af 14 (Z G l.st) rfl;have r:(T.js.set k (i,b.bm l))[k]?=O (i,b.bm l):=by have:=(Ap.1 d.out).1;simp[this]
 have aE:=Xt af;clear aI cj e0 e5;replace⟨al,af,ao,c,aE,r⟩:=H6 al af ao c aE r;go_wp2_with fail;refine(kl _).mono ?_;rintro e w3 ⟨rfl,rfl⟩
 cases q with
 | true=>
  clear aK;have hX:(T.js.set k (i,b.bm l)).map (λj=>j.2.pl)=X1:=by rw[Nk T.js d.out (f:=Mc s) (by rw[p.out,Ad rfl]),o.out];rfl
  have u:CS prog 130 #[K (O ⟨tb,0,I⟩)] w3 (Ki w3 { T with js:=T.js.set k (i,b.bm l) } (Co X1)):=by
   have:=X3 (T:={ T with js:=T.js.set k (i,b.bm l) }) c.tab.at_ (by
    show D3 ((T.js.set k (i,b.bm l)).map λj=>j.2.pl)
    rw[hX];exact am.out)
   rw[show({ T with js:=T.js.set k (i,b.bm l) }:Tv).pl.ab=X1 from hX]at this;rw[ht.out];exact this
  replace⟨hX,u⟩:=H2 hX u;go_wp2_with fail;refine u.mono ?_;rintro e w4 ⟨rfl,aH,z,y⟩
  have a:=c.then z
  have d5:=Bk a.box 5 (Z G ((k:Int)+1)) rfl;obtain⟨r0,r1,r2⟩:=C3 a.res;(try dsimp only at r0 r1 r2);have fr:=Ag a.res;replace⟨z,y,a⟩:=H3 z y a;go_wp2;refine An (v:=Gu ⟨0,0,(k:Int)+1,(k:Int)+1⟩) (by simp[results,results86,go_sem,r0,r1,r2]) rfl ⟨rfl,aH,?_,y.out⟩;exact a.qj h.out _ _ _
 | false=>
  clear aK;go_wp2_with fail;refine aE.mono ?_;rintro e w5 ⟨rfl,aD,ap⟩
  have aB:Cf w T _ ((T.js.set k (i,b.bm l)).set k (i,(b.bm l).bare)) w5:=
   c.dj r.out (Pa ap) aD (Um (x:=b.bm l) (c.tab.get r.out).1 (c.tab.get r.out).2.parts ap) (Xx _)
  have aA:(T.js.set k (i,b.bm l)).set k (i,(b.bm l).bare)=T.js.set k (i,(b.bm l).bare):=as9
  rw[aA]at aB;clear c;have c:=Hh aB;clear aB;replace⟨aD,ap,aA⟩:=H3 aD ap aA;have hX:(T.js.set k (i,(b.bm l).bare)).map (λj=>j.2.pl)=X1:=by rw[Nk T.js d.out (f:=Mc s) (by rw[p.out,Ab as9]),o.out];rfl
  have u:CS prog 130 #[K (O ⟨tb,0,I⟩)] w5 (Ki w5 { T with js:=T.js.set k (i,(b.bm l).bare) } (Co X1)):=by
   have:=X3 (T:={ T with js:=T.js.set k (i,(b.bm l).bare) }) c.tab.at_ (by
    show D3 ((T.js.set k (i,(b.bm l).bare)).map λj=>j.2.pl)
    rw[hX];exact am.out)
   rw[show({ T with js:=T.js.set k (i,(b.bm l).bare) }:Tv).pl.ab=X1 from hX]at this;rw[ht.out];exact this
  replace⟨hX,u⟩:=H2 hX u;go_wp2_with fail;refine u.mono ?_;rintro e w4 ⟨rfl,aH,z,y⟩
  have a:=c.then z
  have d5:=Bk a.box 5 (Z G ((k:Int)+1)) rfl;obtain⟨r0,r1,r2⟩:=C3 a.res;(try dsimp only at r0 r1 r2);have fr:=Ag a.res;replace⟨z,y,a⟩:=H3 z y a;go_wp2;refine An (v:=Gu ⟨0,0,(k:Int)+1,(k:Int)+1⟩) (by simp[results,results86,go_sem,r0,r1,r2]) rfl ⟨rfl,aH,?_,y.out⟩;exact a.qj h.out _ _ _
def Awu (e:de) (j:Jb):(Md e j).sp=j.sp:=by
 unfold Md
 split<;>rfl
def Awv (x:aq) (k:Nat) (h:Int):Gy x (x.cu (Fe x.pl k h)):=⟨rfl,rfl,rfl,rfl,rfl,rfl,.inl ⟨rfl,rfl,rfl,rfl⟩,λ_ h=>h⟩
def Aww {x:aq}  (b:Bo w x) {a n:Int}  (h:Gj x.pl a n=O i):i<x.pn:=by
 have c:=I9 b;unfold Gj at h;split at h
 .have:=Ze.1 h;obtain⟨h1,_⟩:=this;omega
 .cases h
structure yt (w:WD) (T:Tv) (x:dt) (js:List (Nat×aq)) (wr:WD):Prop where
 tab:Cf w T x js wr
def Awx   (x:dt) (h:Al w T) (ha:D3 T.pl.ab) (k:Nat) (j:Nat×aq) (b:T.js[k]?=O j) (hj:x.n.cq=(k:Int)+1) (i:Nat) (s:Gj j.2.pl x.n.attempt x.n.node=O i) :
  CS prog 84 #[K (O ⟨T.tb,0,I⟩),x.val] w (Acm w T (I7 (Fo T.pl.ab x.n.cq (Md x.n))) ⟨0,0,0,0⟩):=by
 have a:=Cf.new h x;obtain⟨W0,af⟩:=Ex ((w.alloc (J x.cells 40 (0,0))).alloc (J #[Z G 0,Z G 0,Z G 0] 35 (0,0)));rw[<-af]at a;have hk:=(Ap.1 b).1;obtain⟨g,cap,c4,cj,aD,_⟩:=a.tab.at_.jf b;have aA:W0.cell? ⟨T.tb,4,I⟩=O (V (O ⟨g,0,I⟩) T.js.length cap):=c4;have aB:T.js.length<=9223372036854775807:=by obtain⟨_,_,_,_,hm,_⟩:=h.mr;exact hm
 obtain⟨jb,l⟩:=j;have q:=(a.tab.get b).2;have ac:=Aww q.parts s;obtain⟨pb,p,ad,_,_,_⟩:=Pb q.parts ac;obtain⟨tb,ht⟩:=Ex (T.tb);obtain⟨m,hm⟩:=Ex (T.js.length);obtain⟨X1,u⟩:=Ex (Fo T.pl.ab x.n.cq (Md x.n));have o:X1=T.pl.ab.modify k (Md x.n):=by rw[u,hj];unfold Fo;rw[show((k:Int)+1-1).toNat=k by omega]
 have al:D3 X1:=by rw[o];exact Qo ha (Ajy _ _ _ (Awu x.n))
 have am:Md x.n l.pl=Fe l.pl i x.n.br:=by unfold Md;rw[s]
 have d:∀W,BW W0.heap.size W0 W->CS prog 102 #[K (O ⟨jb,0,I⟩),Z G x.n.attempt,Z G x.n.node] W λe w'=>e=Q (K (O ⟨pb,i*2,I⟩))/\w'=W:=λW hb=>by
  obtain⟨q1,q2⟩:=(a.tab.low hb).get b;refine(Agr q1 q2.parts x.n.attempt x.n.node).mono λe w' ⟨y,hp⟩=>⟨?_,y⟩;rcases hp with⟨c,_⟩|⟨k',aI,c1,c2,_,c4⟩
  .rw [s]at c;cases c
  .rw [s]at c1;injection c1 with c1;rw[ad]at c2;injection c2 with c2;injection c2 with c2;rw[c4,<-c1,<-c2]
 have r:∀W,BW W0.heap.size W0 W->CS prog 140 #[K (O ⟨jb,0,I⟩),K (O ⟨pb,i*2,I⟩),Z G x.n.br] W λe w'=>e=Q (.tuple #[])/\yt w T x (T.js.set k (jb,l.cu (Fe l.pl i x.n.br))) w':=λW hb=>by
  have hE:=a.low hb;obtain⟨q1,q2⟩:=hE.tab.get b;exact(X5 q1 q2.parts i ac pb ad x.n.br).mono λe w' ⟨he,b1,b2,b3⟩=>⟨he,⟨hE.dj b b3 b1 b2 (Awv l i x.n.br)⟩⟩
 rw[<-u,<-ht];rw[<-ht,<-hm]at aA;obtain⟨⟨kd,ep,tk,cl,sq,jn,an,nn,y⟩,so,sn,sc,dm⟩:=x;simp only at hj u d r;subst hj;have e5:=Bk a.box 5 (Z G ((k:Int)+1)) rfl;have e6:=Bk a.box 6 (Z G an) rfl;have e7:=Bk a.box 7 (Z G nn) rfl;have e8:=Bk a.box 8 (Z G y) rfl;have aH:(k:Int)<m:=ao9
 have aG:(0:Int)<=(k:Int):=ao9
 rw[hm.symm]at aB;replace⟨h,ha,a,b,ht,hm,u,o⟩:=H8 h ha a b ht hm u o;replace⟨al,am,d,r,q,ac,ad,s⟩:=H8 al am d r q ac ad s;clear c4 aD hk;go_enter func84,ntmps84;go_wp2_with fail;rw[<-af];clear af;go_quiet (fail);rename_i nq;go_upto_region 2 with fail;go_cut [] (λwx=>yt w T ⟨⟨kd,ep,tk,cl,sq,(k:Int)+1,an,nn,y⟩,so,sn,sc,dm⟩ (T.js.set k (jb,l.cu (Fe l.pl i y))) wx)
 case first=>
  go_region_with (first
   | (go_at_call 102;((with_reducible refine(d.out _ (A6 _ _ _)).mono ?_);rintro e w1 ⟨rfl,aE⟩;rw[aE]))
   | (go_at_call 140;((with_reducible refine(r.out _ (A6 _ _ _)).mono ?_);rintro e w1 ⟨rfl,aC⟩)))
  all_goals
   go_wp2_with fail;go_meet;exact aC
 case rest=>
  obtain⟨z⟩:=hcut;have hX:(T.js.set k (jb,l.cu (Fe l.pl i y))).map (λj=>j.2.pl)=X1:=by rw[Nk T.js b.out (f:=Md ⟨kd,ep,tk,cl,sq,(k:Int)+1,an,nn,y⟩) (by rw[am.out];rfl),o.out];rfl
  have ap:CS prog 134 #[K (O ⟨tb,0,I⟩)] wc (Ki wc { T with js:=T.js.set k (jb,l.cu (Fe l.pl i y)) } (I7 X1)):=by
   have:=Abe (T:={ T with js:=T.js.set k (jb,l.cu (Fe l.pl i y)) }) z.tab.at_ (by
    show D3 ((T.js.set k (jb,l.cu (Fe l.pl i y))).map λj=>j.2.pl)
    rw[hX];exact al.out)
   rw[show({ T with js:=T.js.set k (jb,l.cu (Fe l.pl i y)) }:Tv).pl.ab=X1 from hX]at this;rw[ht.out];exact this
  clear aA cj e5 e6 e7 e8;replace⟨hX,ap,z⟩:=H3 hX ap z;go_wp2_with fail;refine ap.mono ?_;rintro e w4 ⟨rfl,aF,av,ao⟩
  have t:=z.then av
  obtain⟨r0,r1,r2⟩:=C3 t.res;(try dsimp only at r0 r1 r2);have fr:=Ag t.res;replace⟨av,ao,t⟩:=H3 av ao t;go_wp2;refine An (v:=Gu ⟨0,0,0,0⟩) (by simp[results,results84,go_sem,r0,r1,r2]) rfl ⟨rfl,aF,?_,ao.out⟩;exact t.qj h.out _ _ _
def G6 (w:WD) (js js':List (Nat×aq)):Prop:=∀j,j∈js'->(0<j.2.sn->∀k o,j.2.so=O ⟨k,o,I⟩->k<w.heap.size->∃i,i∈js/\0<i.2.sn/\i.2.so=O ⟨k,o,I⟩)/\(0<j.2.gn->∀k o,j.2.go=O ⟨k,o,I⟩->k<w.heap.size->∃i,i∈js/\0<i.2.gn/\i.2.go=O ⟨k,o,I⟩)
def G6.refl (w:WD) (js:List (Nat×aq)):G6 w js js:=λj a=>⟨λh _ _ e _=>⟨j,a,h,e⟩,λh _ _ e _=>⟨j,a,h,e⟩⟩
def Bp.stays    (h:Bp w1 T js wr):G6 w T.js js:=λj g=>by
 obtain⟨i,d⟩:=Dk g;have b:i<T.js.length:=by rw[<-h.len];exact(Ap.1 d).1
 have k:=Az b;have a:=h.kp i _ j k d;refine⟨λh0 _ _ e _=>⟨_,Kv b,by rw[<-a.sn];exact h0,by rw[<-a.so];exact e⟩,λh0 _ _ e _=>?_⟩;rcases a.aj with⟨f,c,_⟩|⟨_,c,_⟩
 .exact ⟨_,Kv b,by rw[<-c];exact h0,by rw[<-f];exact e⟩
 .omega
def G6.trans  {a b c:List (Nat×aq)} (h:G6 w a b) (k:G6 w1 b c) (r:w.heap.size<=w1.heap.size):G6 w a c:=λj m=>by
 obtain⟨n,p⟩:=k j m;refine⟨λh0 q o e l=>?_,λh0 q o e l=>?_⟩
 .obtain ⟨i,g,d,f⟩:=n h0 q o e ao9;exact(h i g).1 d q o f l
 .obtain ⟨i,g,d,f⟩:=p h0 q o e ao9;exact(h i g).2 d q o f l
structure Em (w:WD) (T T':Tv) (w':WD):Prop where
 at_:Al w' T'
 tb:T'.tb=T.tb
 fb:T'.fb=T.fb
 fm:T'.fm=T.fm
 fl:T'.fl=T.fl
 vs:T'.vs=T.vs
 bh:∀b,T'.bh b->T.bh b\/w.heap.size<=b
 mod:Mod T.bh w w'
 dy:G6 w T.js T'.js
def Pr (w:WD) (T:Tv) (P:dv) (c:Cl) (e:Ending) (w':WD):Prop:=e=Q (Gu c)/\∃T',Em w T T' w'/\T'.pl=P
def Ajz   {X:List Jb} {c:Cl} {e:Ending}  (h:Acm w T X c e w'):Pr w T (T.pl.dx X) c e w':=by
 obtain⟨b,js,a,d⟩:=h;exact⟨b,{ T with js:=js },⟨a.at_,rfl,rfl,rfl,rfl,rfl,a.bh,a.mod,a.stays⟩,by rw[<-d];rfl⟩
def Awy (j:Jb) (k:Nat) (a:Int):(O7 j k a).sp=j.sp/\(O7 j k a).aj=j.aj:=by
 unfold O7;split
 .exact ⟨rfl,rfl⟩
 .split<;>exact⟨rfl,rfl⟩
def Awz (j:Jb) (a:Int) (n:Nat):(I8 j a n).sp=j.sp/\(I8 j a n).aj=j.aj:=by
 induction n with
 | zero=>exact⟨rfl,rfl⟩
 | succ n ih=>
  obtain⟨h1,b⟩:=Awy (I8 j a n) n a;exact⟨h1.trans ih.1,b.trans ih.2⟩
def Acn (j:Jb) (a:Int):(Ff j a).sp=j.sp/\(Ff j a).aj=j.aj:=Awz _ _ _
def Aj0 (x:aq) (a:Int):Gy x (x.cu (Ff x.pl a)):=by
 obtain⟨h1,b⟩:=Acn x.pl a;exact⟨rfl,rfl,rfl,by show(Ff x.pl a).sp.after=_;rw[h1],by show(Ff x.pl a).sp.user=_;rw[h1],by show(Ff x.pl a).sp.part=_;rw[h1],.inl ⟨rfl,rfl,rfl,b⟩,λ_ h=>h⟩
def Al.yi   (h:Al w T) (h0:0<T.nodes.length):∃g cap,T.nv=V (O ⟨g,0,I⟩) T.nodes.length cap/\w.cell? ⟨T.tb,3,I⟩=O (V (O ⟨g,0,I⟩) T.nodes.length cap)/\T.nodes.length<=9223372036854775807:=by
 obtain⟨g,cap,e⟩:=Joins.ownsRow_form h.nodes h0;refine⟨g,cap,e,by rw[Aa h.head 3,<-e];rfl,?_⟩;rcases h.nodes.2 with⟨_,c⟩|⟨f,a,b,c,_,_,h1,d,_⟩
 .omega
 .unfold maxLen at d;omega
def Al.oi   (h:Al w T)  {n:Ej} (b:T.nodes[i]?=O n)  (e:T.nv=V (O ⟨g,0,I⟩) T.nodes.length cap):w.cell? ⟨g,i*3,I⟩=O (Y n.up)/\w.cell? ⟨g,i*3+1,I⟩=O (Y n.bq)/\w.cell? ⟨g,i*3+2,I⟩=O (Z G n.since)/\∀o,w.frozen? ⟨g,o,I⟩=false:=by
 have s:=(Ap.1 b).1;have c:=h.nodes;rw[e]at c;have a:∀x:Ej,(E2 x).size=3:=λ_=>rfl;have f:=Fw c (i*3) ao9;have k:=Fw c (i*3+1) ao9;have l:=Fw c (i*3+2) ao9;have d:=I3 a T.nodes (j:=0) b ao9;have p:=I3 a T.nodes (j:=1) b ao9;have q:=I3 a T.nodes (j:=2) b ao9;rw[O0]at d;obtain⟨m,r,_⟩:=Cq h.nodes (g:=g) (by rw[e];rfl);exact⟨by rw[f,d];rfl,by rw[k,p];rfl,by rw[l,q];rfl,Ag r⟩
def Cf.setNode   {x:dt} (h:Cf w T x T.js wr)  (e:T.nv=V (O ⟨g,0,I⟩) T.nodes.length cap) (i j:Nat) (v:Value) (f:Ej->Ej) (q:j<3) (p:∀x:Ej,(E2 x).toList.set j v=(E2 (f x)).toList) :
  Cf w { T with nodes:=T.nodes.modify i f } x T.js (wr.setCell ⟨g,i*3+j,I⟩ v):=by
 have r:=h.tab.at_.nodes;have l:wr.ownsRow 0 119 3 (V (O ⟨g,0,I⟩) T.nodes.length cap) T.nodes.length (Aq E2 T.nodes):=by have:wr.ownsRow 0 119 3 T.nv T.nodes.length (Aq E2 T.nodes):=r;rw[e]at this;exact this
 have n:=Au7 l (i*3+j) v;rw[Au8 _ _ _ _ f q p]at n;have m:Mod (λk=>({ T with js:=T.js }:Tv).nv.ownBlock=O k) wr (wr.setCell ⟨g,i*3+j,I⟩ v):=Mod.setCell _ _ _ _ (by show T.nv.ownBlock=O g;rw[e];rfl)
 have o:=Al.qq (T:={ T with js:=T.js }) h.tab.at_ (T.nodes.modify i f) (Lq _ _ _) m (by
  rw[Lq];show(wr.setCell ⟨g,i*3+j,I⟩ v).ownsRow 0 119 3 T.nv _ _;rw[e]
  exact n)
 have d:∀k,T.nv.ownBlock=O k->T.bh k:=λk e=>.inr (.inr (.inl e));have a:=m.mono λk _ e=>d k e;refine⟨⟨o,rfl,λb c=>.inl c,h.tab.mod.trans a,h.tab.kp⟩,a.ar h.box (h.tab.at_.off h.box ad9 ad9 ad9 ad9 ad9),a.ar h.res (h.tab.at_.off h.res ad9 ad9 ad9 ad9 ad9)⟩
def Cf.iy  {T a:Tv} {x:dt}  (h:Cf w a x js wr) (h0:Al w T) (d:a.js=T.js) (f:a.tb=T.tb) (s t u:Value):Bp w a js (((wr.setCell ⟨w.heap.size+1,0,I⟩ s).setCell ⟨w.heap.size+1,1,I⟩ t).setCell ⟨w.heap.size+1,2,I⟩ u):=by
 have q:=(((Mod.refl (λk=>k=w.heap.size+1) wr).set _ 0 s rfl).set _ 1 t rfl).set _ 2 u rfl;refine⟨h.tab.at_.el h.res q (by show a.tb<_;rw[f];have:=Ac h0.head;omega) ad9 ad9 ad9 ad9 ad9 ad9 λj v=>?_,h.tab.ar,h.tab.bh,h.tab.mod.then q (λk c e=>by omega),h.tab.kp⟩;obtain⟨i,n⟩:=Dk v;have p:i<a.js.length:=by rw[<-h.tab.len];exact(Ap.1 n).1
 have y:=Az p;have c:=h.tab.kp i _ j y n;have g:a.js[i]∈T.js:=by rw[<-d];exact Kv p
 have r:=h0.ok _ g;refine⟨λb k o e=>?_,λb k o e=>?_⟩
 .rw [c.sn]at b;rw[c.so]at e;have:=La r.after.row b e;omega
 .rcases c.aj with⟨l,m,_⟩|⟨l,m,_⟩
  .rw [m]at b;rw[l]at e;have:=La r.aj.row b e;omega
  .omega
def Aw0   (x:dt) (h:Al w T):CS prog 81 #[K (O ⟨T.tb,0,I⟩),x.val] w (Pr w T { T.pl with ai:=x.n.ai } ⟨0,0,0,0⟩):=by
 have a:=Cf.new h x;obtain⟨f,i⟩:=Ex ((w.alloc (J x.cells 40 (0,0))).alloc (J #[Z G 0,Z G 0,Z G 0] 35 (0,0)));rw[<-i]at a;obtain⟨g,m⟩:=Ex (T.tb);rw[<-m];have o:f.heap[g]?=O (J #[Z G T.ai,Z G T.tick,.map (O T.mb),T.nv,T.jv,K (O ⟨T.fb,0,I⟩),T.cv] 115 (0,0)):=by rw[m];exact a.tab.at_.head
 have c0:=Bk o 0 (Z G T.ai) rfl;have f0:=Ag o;obtain⟨⟨kd,d,tk,cl,sq,jn,an,nn,hw⟩,so,sn,sc,dm⟩:=x;have e1:=Bk a.box 1 (Z G d) rfl;obtain⟨y,z,r2⟩:=C3 a.res;(try dsimp only at y z r2);have fr:=Ag a.res;have l:g≠w.heap.size+1:=by rw[m];have:=Ac h.head;omega
 replace⟨h,a,m,o,l⟩:=H5 h a m o l;go_enter func81,ntmps81;go_upto_region 1 with fail;rw[<-i];clear i;have p:=l.out;have q:=p.symm;have u:¬(w.heap.size+1=g):=q;go_wp2;refine An (v:=Gu ⟨0,0,0,0⟩) (by simp[results,results81,go_sem,y,z,r2]) rfl ⟨rfl,?_⟩
 have r:Cf w { T with ai:=d } ⟨⟨kd,d,tk,cl,sq,jn,an,nn,hw⟩,so,sn,sc,dm⟩ T.js (f.setCell ⟨g,0,I⟩ (Z G d)):=by
  have t:Mod (λk=>k=T.tb) f (f.setCell ⟨g,0,I⟩ (Z G d)):=Mod.setCell _ _ _ _ m.out
  have hA:=a.tab.at_.oj (w':=f.setCell ⟨g,0,I⟩ (Z G d)) d T.tick t (by
   show(f.setCell ⟨g,0,I⟩ (Z G d)).heap[T.tb]?=_;rw[<-m.out,Am o.out]
   rfl)
  have j:Mod T.bh f (f.setCell ⟨g,0,I⟩ (Z G d)):=t.mono λk _ e=>by rw[e];exact .inl rfl
  exact⟨⟨hA,rfl,λb c=>.inl c,a.tab.mod.trans j,a.tab.kp⟩,j.ar a.box (a.tab.at_.off a.box ad9 ad9 ad9 ad9 ad9),j.ar a.res (a.tab.at_.off a.res ad9 ad9 ad9 ad9 ad9)⟩
 have s:=r.iy h.out rfl rfl (Z G 0) (Z G 0) (Z G 0);exact⟨{ T with ai:=d },⟨s.at_,rfl,rfl,rfl,rfl,rfl,s.bh,s.mod,G6.refl _ _⟩,rfl⟩
def Axc {α:Type} (l:List α) (i:Nat) (f g:α->α):(l.modify i f).modify i g=l.modify i λx=>g (f x):=by
 apply Eg;intro k;rw[Fc,Fc,Fc];by_cases h:i=k
 .simp [h,Ia]
 .simp [h]
def Axd   (x:dt) (h:Al w T) (ha:D3 T.pl.ab) (i:Nat) (hi:i<T.nodes.length) (aP:x.n.node=(i:Int)) (aU:8<=x.n.kind/\x.n.kind<=11) :
  CS prog 85 #[K (O ⟨T.tb,0,I⟩),x.val] w (Pr w T (Qp T.pl x.n) ⟨0,0,0,0⟩):=by
 have d:=Cf.new h x;obtain⟨W0,s⟩:=Ex ((w.alloc (J x.cells 40 (0,0))).alloc (J #[Z G 0,Z G 0,Z G 0] 35 (0,0)));rw[<-s]at d;obtain⟨g,cap,ap,c3,av⟩:=Al.yi (T:={ T with js:=T.js }) d.tab.at_ (by show 0<T.nodes.length;omega);have o:=ap;have aM:=c3;have aF:=av;obtain⟨nd,aH⟩:=Ge T.nodes i hi;obtain⟨n0,n1,n2,fn⟩:=Al.oi (T:={ T with js:=T.js }) d.tab.at_ aH ap;obtain⟨tb,ht⟩:=Ex (T.tb);obtain⟨m,hm⟩:=Ex (T.nodes.length);obtain⟨P,hP⟩:=Ex (Qp T.pl x.n);rw[<-ht,<-hP];rw[<-ht,<-hm]at aM;rw[<-hm]at aF
 have am:g≠w.heap.size+1:=λe=>by
  have:=d.tab.at_.off d.res ad9 ad9 ad9 ad9 ad9;exact this (.inr (.inr (.inl (by show T.nv.ownBlock=_;rw[o,e];rfl))))
 obtain⟨⟨kd,ep,tk,cl,sq,jn,an,nn,hw⟩,so,sn,sc,dm⟩:=x;simp only at aP aU;subst aP;have e0:=Bk d.box 0 (Z G kd) rfl;have e2:=Bk d.box 2 (Z G tk) rfl;have e7:=Bk d.box 7 (Z G (i:Int)) rfl;obtain⟨r0,r1,r2⟩:=C3 d.res;(try dsimp only at r0 r1 r2);have fr:=Ag d.res;have a0:(i:Int)<m:=ao9
 have aZ:(0:Int)<=(i:Int):=ao9
 have aT:¬(g=w.heap.size+1):=am;clear c3 av am;replace⟨h,ha,d,ap,o,aH,ht,hm⟩:=H8 h ha d ap o aH ht hm;replace hP:=Hh hP;by_cases q8:kd=8
 .subst q8;obtain⟨aR,aO,ao,aY,aG,_⟩:=h.mr;obtain⟨mj,z⟩:=Ex (T.js.length);obtain⟨r,a⟩:∃r:Tv,r={ T with nodes:=T.nodes.modify i (λn=>⟨false,n.bq,n.since⟩) }:=⟨_,rfl⟩;have l:P={ r.pl with ab:=I7 (r.pl.ab.map λj=>Ff j (i:Int)) }:=by rw[hP.out,a];unfold Qp;rw[Ad rfl];show _=_;simp only[J7];rfl
  have row:∀(js:List (Nat×aq)) (W:WD),Cf w r ⟨⟨8,ep,tk,cl,sq,jn,an,(i:Int),hw⟩,so,sn,sc,dm⟩ js W->∀k,k<mj->∃g j,aR=O ⟨g,0,I⟩/\js[k]?=O j/\W.cell? ⟨g,k,I⟩=O (K (O ⟨j.1,0,I⟩)):=λjs W hW k hk=>by
   have hl:js.length=mj:=(by rw[z,hW.tab.len,a]);obtain⟨j,hj⟩:=Ge js k ao9;obtain⟨aX,aN,e1,_,_,hr⟩:=hW.tab.at_.mr;obtain⟨g,e2,hc⟩:=hr k j hj;have e3:T.jv=V aX js.length aN:=(by rw[<-e1,a]);rw[ao]at e3;injection e3 with e3 _ _;exact⟨g,j,e3.trans e2,hj,hc⟩
  have c4:W0.cell? ⟨tb,4,I⟩=O (V aR mj aO):=by rw[ht.out,Aa d.tab.at_.head 4,z,<-ao];rfl
  rw[z.symm]at aG;have af:D3 r.pl.ab:=by rw[a];exact ha.out
  have aB:r.pl.ab.length=mj:=by rw[z,a];simp[Tv.pl]
  replace⟨ao,z,l,row,af,aB⟩:=H6 ao z l row af aB;go_enter Wv,Wu;go_wp2_with fail;rw[<-s];clear s;go_quiet (fail);rename_i nq;have q:Cf w r ⟨⟨8,ep,tk,cl,sq,jn,an,(i:Int),hw⟩,so,sn,sc,dm⟩ r.js ((W0.drewN nq).setCell ⟨g,i*3,I⟩ (Y false)):=by rw[a];exact(d.low (A6 _ W0 nq)).setNode o.out i 0 (Y false) (λn=>⟨false,n.bq,n.since⟩) ao9 (λ_=>rfl)
  replace⟨q,a⟩:=H2 q a;go_wp2;generalize (W0.drewN nq).setCell ⟨g,i*3,I⟩ (Y false)=W2 at q ⊢;clear c4 aM n0 n1 n2 fn e0 e2 e7 r0 r1 r2 fr aT;go_loopw [7,35] (λ_ i2 wr=>∃(k:Nat) (js:List (Nat×aq)),i2=Z G k/\k<=mj/\Hid (Cf w r ⟨⟨8,ep,tk,cl,sq,jn,an,(i:Int),hw⟩,so,sn,sc,dm⟩ js wr)/\Hid (js.map (λj=>j.2.pl)=D4 (λj=>Ff j (i:Int)) r.pl.ab k)) (λ_ i2 _=>mj-(intOf i2).toNat)
  case atStart=>exact⟨0,r.js,rfl,Ar _,q.out,rfl⟩
  case round=>
   obtain⟨k,js,rfl,hk,hE,hX⟩:=hrel;by_cases hc:k<mj
   .have aS:(k:Int)<mj:=ao9;have a1:(0:Int)<=(k:Int):=ao9;obtain⟨g2,j,rfl,hj,cr⟩:=row _ _ hE.out k hc;obtain⟨jb,jx⟩:=j;obtain⟨aC,aI⟩:=hE.tab.get hj;have e7:=Bk hE.box 7 (Z G (i:Int)) rfl;have aD:=Agk aC aI.parts (i:Int);replace⟨hj,aC,aI,aD⟩:=H4 hj aC aI aD;go_wp2_with fail;refine aD.mono ?_;rintro e w3 ⟨rfl,hG⟩;have ac:=hE.dj hj.out hG.mod hG.box hG.parts (Aj0 jx (i:Int));have aA:(js.set k (jb,jx.cu (Ff jx.pl (i:Int)))).map (λj=>j.2.pl)=D4 (λj=>Ff j (i:Int)) r.pl.ab (k+1):=(by rw[Nk js hj.out (f:=λj=>Ff j (i:Int)) rfl,hX.out];rfl);clear hG;replace⟨ac,aA⟩:=H2 ac aA;go_wp2;go_roundw
    case rel=>exact⟨k+1,_,by go_num,ao9,ac.out,aA.out⟩
    case measure=>simp[intOf];omega
   .have aS:¬(k:Int)<mj:=ao9;have aE:k=mj:=ao9;have y:=hX.out;rw[aE,<-aB.out,Sm]at y;obtain⟨X2,t⟩:=Ex (r.pl.ab.map λj=>Ff j (i:Int));rw[<-t]at y;have al:D3 X2:=by rw[t,<-Sm];exact Qo af.out (X6 _ (λj=>(Acn j _).1) _ _)
    have aK:CS prog 134 #[K (O ⟨tb,0,I⟩)] wr (Ki wr { r with js:=js } (I7 X2)):=by
     have:=Abe (T:={ r with js:=js }) hE.tab.at_ (by
      show D3 (js.map λj=>j.2.pl)
      rw[y];exact al)
     rw[show({ r with js:=js }:Tv).pl.ab=X2 from y]at this;rw[show tb=({ r with js:=js }:Tv).tb from by rw[ht.out,a.out]];exact this
    replace⟨y,t,al,aK,aE⟩:=H5 y t al aK aE;go_wp2_with fail;refine aK.mono ?_;rintro e w4 ⟨rfl,aV,aL,aJ⟩
    have ad:=hE.then aL
    obtain⟨r0,r1,r2⟩:=C3 ad.res;(try dsimp only at r0 r1 r2);have fr:=Ag ad.res;replace⟨aL,aJ,ad⟩:=H3 aL aJ ad;go_wp2;refine An (v:=Gu ⟨0,0,0,0⟩) (by simp[results,results85,go_sem,r0,r1,r2]) rfl ⟨rfl,?_⟩;have u:=ad.iy h.out (by rw[a.out]) (by rw[a.out]) (Z G 0) (Z G 0) (Z G 0);refine⟨{ r with js:=aV },⟨u.at_,by rw[a.out],by rw[a.out],by rw[a.out],by rw[a.out],by rw[a.out],?_,?_,?_⟩,?_⟩
    .intro b c;have:=u.bh b c;rw[a.out]at this;exact this
    .have:=u.mod;rw[a.out]at this;exact this
    .have:=u.stays (w:=w);rw[a.out]at this;exact this
    .rw [l.out,<-t.out,<-aJ.out];rfl
 .by_cases q9:kd=9
  .subst q9;have l:P={ T.pl with nodes:=T.pl.nodes.modify (i:Int).toNat (λn=>⟨true,n.bq,tk⟩) }:=(by rw[hP.out];rfl);replace⟨l,q8⟩:=H2 l q8;go_enter Wv,Wu;go_wp2_with fail;rw[<-s];clear s;go_quiet (fail);rename_i nq;have p:=d.low (A6 _ W0 nq);replace p:=Hh p;go_wp2_with fail;go_region_with (fail)
   all_goals
    go_wp2;refine An (v:=Gu ⟨0,0,0,0⟩) (by simp[results,results85,go_sem,r0,r1,r2]) rfl ⟨rfl,?_⟩;have q:=(d.low (A6 _ W0 (nq+1))).setNode o.out i 0 (Y true) (λn=>⟨true,n.bq,n.since⟩) ao9 (λ_=>rfl);have ac:=Cf.setNode (T:={ T with nodes:=T.nodes.modify i (λn=>⟨true,n.bq,n.since⟩) }) q (by show T.nv=_;rw[Lq];exact o.out) i 2 (Z G tk) (λn=>⟨n.up,n.bq,tk⟩) ao9 (λ_=>rfl);have u:=ac.iy h.out rfl rfl (Z G 0) (Z G 0) (Z G 0);exact⟨{ T with nodes:=(T.nodes.modify i (λn=>⟨true,n.bq,n.since⟩)).modify i (λn=>⟨n.up,n.bq,tk⟩) },⟨u.at_,rfl,rfl,rfl,rfl,rfl,u.bh,u.mod,G6.refl _ _⟩,by rw[l.out,J7,Axc];rfl⟩
  .by_cases aQ:kd=10
   .subst aQ;have l:P={ T.pl with nodes:=T.pl.nodes.modify (i:Int).toNat (λn=>⟨n.up,true,n.since⟩) }:=(by rw[hP.out];rfl);replace⟨l,q8,q9⟩:=H3 l q8 q9;go_enter Wv,Wu;go_wp2_with fail;rw[<-s];clear s;go_quiet (fail);rename_i nq;have p:=d.low (A6 _ W0 nq);replace p:=Hh p;go_wp2;refine An (v:=Gu ⟨0,0,0,0⟩) (by simp[results,results85,go_sem,r0,r1,r2]) rfl ⟨rfl,?_⟩;have q:=p.setNode o.out i 1 (Y true) (λn=>⟨n.up,true,n.since⟩) ao9 (λ_=>rfl);have u:=q.iy h.out rfl rfl (Z G 0) (Z G 0) (Z G 0);exact⟨{ T with nodes:=T.nodes.modify i (λn=>⟨n.up,true,n.since⟩) },⟨u.at_,rfl,rfl,rfl,rfl,rfl,u.bh,u.mod,G6.refl _ _⟩,by rw[l.out,J7];rfl⟩
   .have aW:kd=11:=ao9;clear aQ;subst aW;have l:P={ T.pl with nodes:=T.pl.nodes.modify (i:Int).toNat (λn=>⟨n.up,false,n.since⟩) }:=(by rw[hP.out];rfl);replace⟨l,q8,q9⟩:=H3 l q8 q9;go_enter Wv,Wu;go_wp2_with fail;rw[<-s];clear s;go_quiet (fail);rename_i nq;have p:=d.low (A6 _ W0 nq);replace p:=Hh p;go_wp2;refine An (v:=Gu ⟨0,0,0,0⟩) (by simp[results,results85,go_sem,r0,r1,r2]) rfl ⟨rfl,?_⟩;have q:=p.setNode o.out i 1 (Y false) (λn=>⟨n.up,false,n.since⟩) ao9 (λ_=>rfl);have u:=q.iy h.out rfl rfl (Z G 0) (Z G 0) (Z G 0);exact⟨{ T with nodes:=T.nodes.modify i (λn=>⟨n.up,false,n.since⟩) },⟨u.at_,rfl,rfl,rfl,rfl,rfl,u.bh,u.mod,G6.refl _ _⟩,by rw[l.out,J7];rfl⟩
