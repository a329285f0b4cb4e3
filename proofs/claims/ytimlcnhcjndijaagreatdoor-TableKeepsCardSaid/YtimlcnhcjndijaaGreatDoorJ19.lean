/- Parts of a proof. No condition. -/
import Derived.Test.YtimlcnhcjndijaaGreatDoorJ16
import Derived.Test.YtimlcnhcjndijaaGreatDoorJ18
set_option linter.all false
set_option maxRecDepth 100000
set_option maxHeartbeats 3200000
namespace Go.Proofs.YtimlcnhcjndijaaGreatDoor
open Option renaming none->I,some->O
open Value renaming pointer->K,int->Z,slice->V,bool->Q,string->D
open IntKind renaming i64->G
open Ending renaming returned->Y
open Obj renaming cells->J
open Go renaming World->WD,Value->VL,Calls->CS
open Go.RowKit renaming Below->BW
open Go.Proofs.Tryz
section
open Go.RowKit Go.Maps Go.Lib
variable{js:List (Nat×aj)}{cap g i:Nat}{T:Tv}{w w' w1 wr:WD}
def O4 (s:du) (after:List Int) (id:Int):Jb:=⟨id,{ s with array:=1,after:=after },(Lb s.ae s.held).1,-1,[],[]⟩
def F6 (s:du) (after:List Int) (js:List Jb):Nat->List Jb
 | 0=>js
 | n+1=>F6 s after js n++[O4 s after ((js.length+n+1:Nat):Int)]
def Es:List (du×List Int)->List Jb->List Jb
 | [],js=>js
 | p :: l,js=>Es l (F6 p.1 p.2 js p.1.array.toNat)
def I5 (l:List du):Int:=(l.map λs=>s.array).foldl (·+·) 0
def Re (ns:List E6) (i:Int):E6:=(ns[i.toNat]?).getD ⟨false,false,-1⟩
def Li (t:dq) (e:dm):Int:=
 if (t.nodes.length:Int)<=e.node then 142
 else if e.kind=8\/e.kind=9 then(if e.tick<t.tick then 141 else if (Re t.nodes e.node).up≠decide (e.kind=8)then 100 else 0)
 else if e.kind=10\/e.kind=11 then(if (Re t.nodes e.node).bt≠decide (e.kind=11)then 100 else 0)
 else 0
def Fe (js:List Jb) (id:Int):Jb:=(js[(id-1).toNat]?).getD ⟨0,du.zero,Lf.zero,0,[],[]⟩
def J7 (t:dq) (e:dm):Int:=
 if (t.ab.length:Int)<e.br then 90
 else if e.kind≠7 then(Ay (Fe t.ab e.br).lf (Fv e.kind)).2
 else if Gl (Fe t.ab e.br) e.attempt e.node=I then 100 else 0
def dq.gq (t:dq) (js:List Jb):dq:={ t with ab:=js }
def C9 (js:List Jb) (id:Int) (f:Jb->Jb):List Jb:=js.modify (id-1).toNat f
def Ik (s:Int) (j:Jb):Jb:=if cu (j.move s).lf.st=true then j.move s else(j.move s).bare
def Ah8 (t:dq) (e:dm):dq×Cl:=(t.gq (C2 (C9 t.ab e.br (Ik (Fv e.kind)))),⟨0,0,e.br,e.br⟩)
def I6 (e:dm) (j:Jb):Jb:=match Gl j e.attempt e.node with
 | none=>j
 | some k=>Em j k e.bq
def Ah9 (t:dq) (e:dm):dq:=t.gq (Gk (C9 t.ab e.br (I6 e)))
def Md (t:dq) (e:dm):dq:=
 if e.kind=8 then { t with nodes:=t.nodes.modify e.node.toNat (λn=>⟨false,n.bt,n.since⟩),ab:=Gk (t.ab.map λj=>E8 j e.node) }
 else if e.kind=9 then { t with nodes:=t.nodes.modify e.node.toNat (λn=>⟨true,n.bt,e.tick⟩) }
 else { t with nodes:=t.nodes.modify e.node.toNat (λn=>⟨n.up,decide (e.kind=10),n.since⟩) }
def J8 (j:Jb):V4:=Ut { j.sp with after:=[] }
def D1 (js:List Jb):List fp:=(js.filter λj=>j.live).map λj=>⟨j.sp.user,J8 j⟩
def Ce (js:List Jb):List (List Int×V4×Int):=(js.filter λj=>j.live).map λj=>((j.parts.filter λp=>decide (p.2=0)).map Prod.fst,j.sp.df,En j)
def Bs (js:List Jb):List dp:=(js.filter λj=>Ey js j).map λj=>⟨j.id,j.sp.user,j.sp.prio,J8 j⟩
def Et (t:Int) (j:Jb):Jb:=if j.live=true/\En j<=t then E8 j (-1)else j
def jg (t:dq):List Bool:=t.nodes.map λn=>n.up && !n.bt && decide (n.since<t.tick)
def B8 (j:Jb):Jb:=if j.lf.st=1 then j.bare else j
def Eu (tick st:Int) (zs:List Int) (j:Jb):Jb:=
 if st=tick then⟨j.id,j.sp,(Ay j.lf 3).1,st,zs,j.parts++zs.map λn=>(n,0)⟩else⟨j.id,j.sp,j.lf,st,zs,j.parts⟩
def F7 (tick:Int):List (Int×Int×List Int)->List Jb->List Jb
 | [],js=>js
 | s :: l,js=>F7 tick l (C9 js s.1 (Eu tick s.2.1 s.2.2))
def Adl (j:Jb):Prop:=-1<=j.start/\j.start<=1099511627776/\0<=j.sp.wall/\j.sp.wall<=1099511627776
def Ak7  {b:Nat} {x:aj} (d:Bj w b x) (k:Adl x.pl):CS prog 132 #[K (O ⟨b,0,I⟩)] w λe w'=>e=Y (Z G (En x.pl))/\∃n,w'=w.drewN n:=by
 obtain⟨h1,h,i,j⟩:=k;obtain⟨s,a⟩:=Ex (x.pl.start);obtain⟨v,c⟩:=Ex (x.pl.sp.wall);have g:w.cell? ⟨b,19,I⟩=O (Z G s):=by rw[a];exact Aa d 19
 have l:w.cell? ⟨b,8,I⟩=O (Z G v):=by rw[c];exact Aa d 8
 have f:En x.pl=s+8+v:=by rw[a,c];rfl
 rw[<-a]at h1 h;rw[<-c]at i j;have w1:IntKind.i64.wrap (s+8)=s+8:=Ja ao9 ao9;have m:IntKind.i64.wrap (s+8+v)=s+8+v:=Ja ao9 ao9;replace⟨d,f,a,c⟩:=H4 d f a c;go_enter func132,ntmps132;go_upto_region 1 with fail;go_quiet (fail);go_wp2_with fail;go_ret;exact⟨by rw[f.out];rfl,_,rfl⟩
def Ak8  {b:Nat} {x:aj} {S:Nat->Prop} (k:Bj w b x) (s:O2 w S x):CS prog 184 #[K (O ⟨b,0,I⟩)] w λe w'=>e=Y (J8 x.pl).val/\BW w.heap.size w w':=by
 obtain⟨⟨id,⟨g,d,nodes,⟨u,y,z,dd⟩,h,f,array,t,c,after⟩,lf,start,ah,parts⟩,so,sn,sc,go,gn,gc,po,pn,pc⟩:=x;obtain⟨⟨na,nb,nc,nd⟩,r⟩:∃v,v=Ut ⟨g,d,nodes,⟨u,y,z,dd⟩,h,f,array,t,c,[]⟩:=⟨_,rfl⟩
 have kn:∀W,CS prog 234 #[.agg #[D g,D d,Z G nodes,Z G u,Z G y,Z G z,Z G dd,Z G h,Z G f,Z G array,Z G t,Q c,V I 0 0]] W λe w'=>e=Y (.agg #[Z G na,Z G nb,Z G nc,Z G nd])/\BW W.heap.size W w':=λW=>by
  have:=Ary ⟨⟨g,d,nodes,⟨u,y,z,dd⟩,h,f,array,t,c,[]⟩,I,0,0⟩ W ⟨Yi W,Nat.le_refl _,s.user,s.part⟩;rw[<-r]at this;exact this
 have y1:=Bk k 1 (D g) rfl;have y2:=Bk k 2 (D d) rfl;have y3:=Bk k 3 (Z G nodes) rfl;have y4:=Bk k 4 (Z G u) rfl;have y5:=Bk k 5 (Z G y) rfl;have y6:=Bk k 6 (Z G z) rfl;have y7:=Bk k 7 (Z G dd) rfl;have y8:=Bk k 8 (Z G h) rfl;have y9:=Bk k 9 (Z G f) rfl;have am:=Bk k 10 (Z G array) rfl;have an:=Bk k 11 (Z G t) rfl;have ao:=Bk k 12 (Q c) rfl;have ap:=Bk k 13 (V so sn sc) rfl;have aA:=Ab k;obtain⟨W1,l⟩:=Ex ((w.alloc (J #[Z G 0,Z G 0,Z G 0,Z G 0] 30)).alloc (J #[D g,D d,Z G nodes,Z G u,Z G y,Z G z,Z G dd,Z G h,Z G f,Z G array,Z G t,Q c,V so sn sc] 33));have n:BW w.heap.size w W1:=by rw[l];exact Bn.alloc as9 _
 have o:W1.heap[w.heap.size]?=O (J #[Z G 0,Z G 0,Z G 0,Z G 0] 30 (0,0)):=by rw[l];exact Aj _ (Ah _ _)
 have p:W1.heap[w.heap.size+1]?=O (J #[D g,D d,Z G nodes,Z G u,Z G y,Z G z,Z G dd,Z G h,Z G f,Z G array,Z G t,Q c,V so sn sc] 33 (0,0)):=by rw[l];exact A6 _ _ as9
 have hz:(J8 ⟨id,⟨g,d,nodes,⟨u,y,z,dd⟩,h,f,array,t,c,after⟩,lf,start,ah,parts⟩)=⟨na,nb,nc,nd⟩:=r.symm;have av:=Bk p 12 (V so sn sc) rfl;have fz:=Ag p;obtain⟨W2,m⟩:=Ex (W1.setCell ⟨w.heap.size+1,12,I⟩ (V I 0 0));have i:BW w.heap.size w W2:=by rw[m];exact Cr n ao9
 have a:W2.heap[w.heap.size]?=O (J #[Z G 0,Z G 0,Z G 0,Z G 0] 30 (0,0)):=by rw[m];exact(C1 _ _ _ _ (λe=>by simp at e)).trans o
 have q:W2.heap[w.heap.size+1]?=O (J #[D g,D d,Z G nodes,Z G u,Z G y,Z G z,Z G dd,Z G h,Z G f,Z G array,Z G t,Q c,V I 0 0] 33 (0,0)):=by rw[m];have:=Ap p 12 (V I 0 0);simpa using this
 replace⟨k,s,r,kn,n,o,p,hz⟩:=H8 k s r kn n o p hz;replace⟨i,a,q⟩:=H3 i a q;go_enter func184,ntmps184;go_upto_region 2 with fail;rw[<-l];clear l y1 y2 y3 y4 y5 y6 y7 y8 y9 am an ao ap;go_upto_region 3 with fail;rw[<-m];clear m av fz;obtain⟨s0,s1,s2,s3,s4,s5,s6,s7,s8,s9,ac,ad,al⟩:=C13 q.out;(try dsimp only at s0 s1 s2 s3 s4 s5 s6 s7 s8 s9 ac ad al);go_wp2_with (go_at_call 234;(with_reducible refine(kn.out _).mono ?_);rintro e w3 ⟨rfl,j⟩;have r0:w3.cell? ⟨w.heap.size,0,I⟩=O (Z G 0):=Aa (Ae j a.out (Ab a.out)) 0;have r1:w3.cell? ⟨w.heap.size,1,I⟩=O (Z G 0):=Aa (Ae j a.out (Ab a.out)) 1;have r2:w3.cell? ⟨w.heap.size,2,I⟩=O (Z G 0):=Aa (Ae j a.out (Ab a.out)) 2;have r3:w3.cell? ⟨w.heap.size,3,I⟩=O (Z G 0):=Aa (Ae j a.out (Ab a.out)) 3;have fr:=Ag (Ae j a.out (Ab a.out));replace j:=Hh j);refine Al (v:=V4.val ⟨na,nb,nc,nd⟩) (by simp[results,results184,go_sem,r0,r1,r2,r3]) rfl ⟨by rw[hz.out],?_⟩;exact Cr (Cr (Cr (Cr (i.trans (j.mono i.size)) ao9) ao9) ao9) ao9
def Ax7:∀args w,(callFunc 247 args).run prog w=.ok (.enter 247 args) w:=J2 func247 ad9 (by simp[f247])
def Ax8   (h:Ao w T) (f:Nat) (c:w.cell? ⟨f,0,I⟩=O (K (O ⟨T.tb,0,I⟩))) (k:Nat) (n:k<T.js.length) :
  CS prog 247 (#[Z G ((k:Int)+1)]++#[K (O ⟨f,0,I⟩)]) w λe w'=>e=Y (Q (!decide (I1 T.pl.ab ((k:Int)+1)=5)))/\w'=w:=by
 obtain⟨j,b⟩:=Ge T.js k n;rw[Ahs b];obtain⟨g,cap,i,r,z,_⟩:=h.l7 b;obtain⟨tb,q⟩:=Ex (T.tb);obtain⟨jb,a⟩:=Ex (j.1);obtain⟨m,o⟩:=Ex (T.js.length);obtain⟨s,d⟩:=Ex (j.2.pl.lf.st);have cs:w.cell? ⟨j.1,14,I⟩=O (Z G j.2.pl.lf.st):=Aa (h.box j (Ai b)) 14
 have p:m<=9223372036854775807:=by
  rcases h.ab.2 with⟨_,u⟩|⟨g',l,t,u,_,_,h1,v,_⟩
  .omega
  .unfold maxLen at v;omega
 rw[<-a,<-d]at cs;rw[<-q]at i c;rw[<-o]at i n;rw[<-a]at r;rw[<-d];have y:(k:Int)<m:=ao9
 have x:(0:Int)<=(k:Int):=ao9
 clear q a o d h b;go_enter func247,ntmps247;go_wp2_with fail;go_ret;exact⟨by first|rfl|(congr 1;congr 1;simp[bne];rfl)|simp[bne],rfl⟩
abbrev Ir (c:Cl):VL:=.agg #[Z G c.e,Z G c.first,Z G c.last]
def Adp (w:WD) (T:Tv) (X:List Jb) (c:Cl) (e:Ending) (w':WD):Prop:=e=Y (Ir c)/\∃js,B7 w T js w'/\js.map (λj=>j.2.pl)=X
structure tx (w:WD) (x:de) (wr:WD):Prop where
 low:BW w.heap.size w wr
 box:wr.heap[w.heap.size]?=O (J x.cells 40 (0,0))
 res:wr.heap[w.heap.size+1]?=O (J #[Z G 0,Z G 0,Z G 0] 35 (0,0))
def tx.new (w:WD) (x:de):tx w x ((w.alloc (J x.cells 40 (0,0))).alloc (J #[Z G 0,Z G 0,Z G 0] 35 (0,0))):=
 ⟨Bn.alloc as9 _,Aj _ (Ah _ _),A6 _ _ as9⟩
structure Cz (w:WD) (T:Tv) (x:de) (js:List (Nat×aj)) (wr:WD):Prop where
 tab:B7 w T js wr
 box:wr.heap[w.heap.size]?=O (J x.cells 40 (0,0))
 res:wr.heap[w.heap.size+1]?=O (J #[Z G 0,Z G 0,Z G 0] 35 (0,0))
def Cz.new   (h:Ao w T) (x:de):Cz w T x T.js ((w.alloc (J x.cells 40 (0,0))).alloc (J #[Z G 0,Z G 0,Z G 0] 35 (0,0))):=
 ⟨(B7.refl h).low (tx.new w x).low,(tx.new w x).box,(tx.new w x).res⟩
def Cz.low   {x:de}  (h:Cz w T x js wr) (a:BW wr.heap.size wr w'):Cz w T x js w':=⟨h.tab.low a,Ae a h.box (Ab h.box),Ae a h.res (Ab h.res)⟩
def Cz.then   {x:de} {js a:List (Nat×aj)} (h:Cz w T x js wr) (b:B7 wr { T with js:=js } a w'):Cz w T x a w':=
 ⟨h.tab.then b,b.mod.au h.box (h.tab.at_.off h.box ad9 ad9 ad9 ad9 ad9),b.mod.au h.res (h.tab.at_.off h.res ad9 ad9 ad9 ad9 ad9)⟩
def Cz.dv   {e:de}  (h:Cz w T e js wr) {i b:Nat} {x y:aj} (g:js[i]?=O (b,x)) (d:Mod (G3 (b,x)) wr w') (a:Bj w' b y) (f:Ca w' y) (c:I4 x y):Cz w T e (js.set i (b,y)) w':=
 h.then ((B7.refl (T:={ T with js:=js }) h.tab.at_).dv g d a f c)
def Cz.rz   {x:de}  (h:Cz w T x js wr) (h0:Ao w T) (a b c:VL):B7 w T js (((wr.setCell ⟨w.heap.size+1,0,I⟩ a).setCell ⟨w.heap.size+1,1,I⟩ b).setCell ⟨w.heap.size+1,2,I⟩ c):=
 h.tab.gl h0 h.res ((((Mod.refl (λk=>k=w.heap.size+1) wr).set _ 0 a rfl).set _ 1 b rfl).set _ 2 c rfl) ao9 ad9 ad9 ad9 ad9 ad9 ad9
def Ay1 (s:Int) (j:Jb):(Ik s j).sp=j.sp:=by
 unfold Ik
 split<;>rfl
def Ali (js:List Jb) (i:Nat) (f:Jb->Jb) (a:∀j,(f j).sp=j.sp):(js.modify i f).map Jb.sp=js.map Jb.sp:=by
 apply Eh;intro k;simp only[A7,Dj]
 cases js[k]? with
 | none=>rfl
 | some j=>
  simp only[K9];split
  .exact Cv O (a j)
  .rfl
def Ay2   (x:de) (h:Ao w T) (ha:Ep T.pl.ab) (k:Nat) (hk:k<T.js.length) (hj:x.n.br=(k:Int)+1) :
  CS prog 86 #[K (O ⟨T.tb,0,I⟩),x.val] w (Adp w T (C2 (C9 T.pl.ab x.n.br (Ik (Fv x.n.kind)))) ⟨0,0,x.n.br,x.n.br⟩):=by
 have t:=Cz.new h x;obtain⟨W0,aD⟩:=Ex ((w.alloc (J x.cells 40 (0,0))).alloc (J #[Z G 0,Z G 0,Z G 0] 35 (0,0)));rw[<-aD]at t;obtain⟨j,d⟩:=Ge T.js k hk;obtain⟨g,cap,c4,cj,aM,_⟩:=t.tab.at_.l7 d;have aJ:W0.cell? ⟨T.tb,4,I⟩=O (V (O ⟨g,0,I⟩) T.js.length cap):=c4;have aK:T.js.length<=9223372036854775807:=by obtain⟨_,_,_,_,hm,_⟩:=h.og;exact hm
 obtain⟨i,b⟩:=j;obtain⟨tb,ht⟩:=Ex (T.tb);obtain⟨m,hm⟩:=Ex (T.js.length);obtain⟨s,hs⟩:=Ex (Fv x.n.kind)
 have aH:1<=s/\s<=8:=by rw[hs];unfold Fv;split<;>(try split)<;>omega
 have ks:=λW=>Ah5 x.n.kind W;rw[<-hs]at ks;obtain⟨l,hl⟩:=Ex ((Ay b.pl.lf s).1);have aA:=λ(W:WD) (hW:Bj W i b)=>S4 hW s aH;rw[<-hl]at aA;obtain⟨X1,ad⟩:=Ex (C9 T.pl.ab x.n.br (Ik s));have o:X1=T.pl.ab.modify k (Ik s):=by rw[ad,hj];unfold C9;rw[show((k:Int)+1-1).toNat=k by omega]
 have ao:Ep X1:=by rw[o];exact Rc ha (Ali _ _ _ (Ay1 s))
 have p:Ik s b.pl=if cu l.st=true then(b.bm l).pl else(b.bm l).bare.pl:=by rw[hl];rfl
 rw[<-hs,<-ad,<-ht];rw[<-ht,<-hm]at aJ;have kl:=λW=>Ra l.st W;obtain⟨q,hq⟩:=Ex (cu l.st);rw[<-hq]at kl p;obtain⟨⟨kd,ep,tk,cl,sq,jn,an,nn,hw⟩,so,sn,sc,dj⟩:=x;simp only at hj ad ks;subst hj;have e0:=Bk t.box 0 (Z G kd) rfl;have e5:=Bk t.box 5 (Z G ((k:Int)+1)) rfl;have aO:(k:Int)<m:=ao9
 have aN:(0:Int)<=(k:Int):=ao9
 rw[hm.symm]at aK;replace⟨h,ha,t,d,ht,hm,hs,aH⟩:=H8 h ha t d ht hm hs aH;replace⟨ks,hl,aA,ad,o,ao,p,kl⟩:=H8 ks hl aA ad o ao p kl;replace hq:=Hh hq;clear c4 aM hk;go_enter func86,ntmps86;go_wp2_with fail;rw[<-aD];clear aD;go_quiet (fail);rename_i nq;have ac:=t.low (⟨rfl,rfl,rfl,Nat.le_refl _,λ_ _=>rfl⟩:BW W0.heap.size W0 (W0.drewN nq));have aG:=aA _ (ac.tab.get d.out).1;replace⟨ac,aG⟩:=H2 ac aG;go_wp2_with fail;refine(ks _).mono ?_;rintro e w1 ⟨rfl,rfl⟩;go_wp2_with fail;refine aG.mono ?_;rintro e w2 ⟨rfl,al,ap⟩;have am:=(ac.tab.get d.out).2
 have c:Cz w T _ (T.js.set k (i,b.bm l)) w2:=
  ac.dv d.out (P7 ap) al (U2 (x:=b) (ac.tab.get d.out).1 am.parts ap) (Yp _ _)
 have aL:=Bk al 14 (Z G l.st) rfl;have r:(T.js.set k (i,b.bm l))[k]?=O (i,b.bm l):=by have:=(An.1 d.out).1;simp[this]
 have aF:=Ym al;clear aJ cj e0 e5;replace⟨am,al,ap,c,aF,r⟩:=H6 am al ap c aF r;go_wp2_with fail;refine(kl _).mono ?_;rintro e w3 ⟨rfl,rfl⟩
 cases q with
 | true=>
  clear aL;have hX:(T.js.set k (i,b.bm l)).map (λj=>j.2.pl)=X1:=by rw[N7 T.js d.out (f:=Ik s) (by rw[p.out,Ad rfl]),o.out];rfl
  have u:CS prog 130 #[K (O ⟨tb,0,I⟩)] w3 (Lh w3 { T with js:=T.js.set k (i,b.bm l) } (C2 X1)):=by
   have:=Ys (T:={ T with js:=T.js.set k (i,b.bm l) }) c.tab.at_ (by
    show Ep ((T.js.set k (i,b.bm l)).map λj=>j.2.pl)
    rw[hX];exact ao.out)
   rw[show({ T with js:=T.js.set k (i,b.bm l) }:Tv).pl.ab=X1 from hX]at this;rw[ht.out];exact this
  replace⟨hX,u⟩:=H2 hX u;go_wp2_with fail;refine u.mono ?_;rintro e w4 ⟨rfl,aI,z,y⟩
  have a:=c.then z
  have d5:=Bk a.box 5 (Z G ((k:Int)+1)) rfl;obtain⟨r0,r1,r2⟩:=C3 a.res;(try dsimp only at r0 r1 r2);have fr:=Ag a.res;replace⟨z,y,a⟩:=H3 z y a;go_wp2;refine Al (v:=Ir ⟨0,0,(k:Int)+1,(k:Int)+1⟩) (by simp[results,results86,go_sem,r0,r1,r2]) rfl ⟨rfl,aI,?_,y.out⟩;exact a.rz h.out _ _ _
 | false=>
  clear aL;go_wp2_with fail;refine aF.mono ?_;rintro e w5 ⟨rfl,aE,av⟩
  have aC:Cz w T _ ((T.js.set k (i,b.bm l)).set k (i,(b.bm l).bare)) w5:=
   c.dv r.out (P7 av) aE (U2 (x:=b.bm l) (c.tab.get r.out).1 (c.tab.get r.out).2.parts av) (Yq _)
  have aB:(T.js.set k (i,b.bm l)).set k (i,(b.bm l).bare)=T.js.set k (i,(b.bm l).bare):=as9
  rw[aB]at aC;clear c;have c:=Hh aC;clear aC;replace⟨aE,av,aB⟩:=H3 aE av aB;have hX:(T.js.set k (i,(b.bm l).bare)).map (λj=>j.2.pl)=X1:=by rw[N7 T.js d.out (f:=Ik s) (by rw[p.out,Ac as9]),o.out];rfl
  have u:CS prog 130 #[K (O ⟨tb,0,I⟩)] w5 (Lh w5 { T with js:=T.js.set k (i,(b.bm l).bare) } (C2 X1)):=by
   have:=Ys (T:={ T with js:=T.js.set k (i,(b.bm l).bare) }) c.tab.at_ (by
    show Ep ((T.js.set k (i,(b.bm l).bare)).map λj=>j.2.pl)
    rw[hX];exact ao.out)
   rw[show({ T with js:=T.js.set k (i,(b.bm l).bare) }:Tv).pl.ab=X1 from hX]at this;rw[ht.out];exact this
  replace⟨hX,u⟩:=H2 hX u;go_wp2_with fail;refine u.mono ?_;rintro e w4 ⟨rfl,aI,z,y⟩
  have a:=c.then z
  have d5:=Bk a.box 5 (Z G ((k:Int)+1)) rfl;obtain⟨r0,r1,r2⟩:=C3 a.res;(try dsimp only at r0 r1 r2);have fr:=Ag a.res;replace⟨z,y,a⟩:=H3 z y a;go_wp2;refine Al (v:=Ir ⟨0,0,(k:Int)+1,(k:Int)+1⟩) (by simp[results,results86,go_sem,r0,r1,r2]) rfl ⟨rfl,aI,?_,y.out⟩;exact a.rz h.out _ _ _
def Ay3 (e:dm) (j:Jb):(I6 e j).sp=j.sp:=by
 unfold I6
 split<;>rfl
def Ay4 (x:aj) (k:Nat) (h:Int):I4 x (x.cz (Em x.pl k h)):=⟨rfl,rfl,rfl,rfl,rfl,rfl,.inl ⟨rfl,rfl,rfl,rfl⟩,λ_ h=>h⟩
def Ay5 {x:aj}  (b:Ca w x) {a n:Int}  (h:Gl x.pl a n=O i):i<x.pn:=by
 have c:=Ks b;unfold Gl at h;split at h
 .have:=Aae.1 h;obtain⟨h1,_⟩:=this;omega
 .cases h
structure yt (w:WD) (T:Tv) (x:de) (js:List (Nat×aj)) (wr:WD):Prop where
 tab:Cz w T x js wr
def Ay6   (x:de) (h:Ao w T) (ha:Ep T.pl.ab) (k:Nat) (j:Nat×aj) (b:T.js[k]?=O j) (hj:x.n.br=(k:Int)+1) (i:Nat) (s:Gl j.2.pl x.n.attempt x.n.node=O i) :
  CS prog 84 #[K (O ⟨T.tb,0,I⟩),x.val] w (Adp w T (Gk (C9 T.pl.ab x.n.br (I6 x.n))) ⟨0,0,0,0⟩):=by
 have a:=Cz.new h x;obtain⟨W0,al⟩:=Ex ((w.alloc (J x.cells 40 (0,0))).alloc (J #[Z G 0,Z G 0,Z G 0] 35 (0,0)));rw[<-al]at a;have hk:=(An.1 b).1;obtain⟨g,cap,c4,cj,aE,_⟩:=a.tab.at_.l7 b;have aB:W0.cell? ⟨T.tb,4,I⟩=O (V (O ⟨g,0,I⟩) T.js.length cap):=c4;have aC:T.js.length<=9223372036854775807:=by obtain⟨_,_,_,_,hm,_⟩:=h.og;exact hm
 obtain⟨jb,l⟩:=j;have q:=(a.tab.get b).2;have ac:=Ay5 q.parts s;obtain⟨pb,p,ad,_,_,_⟩:=Rd q.parts ac;obtain⟨tb,ht⟩:=Ex (T.tb);obtain⟨m,hm⟩:=Ex (T.js.length);obtain⟨X1,u⟩:=Ex (C9 T.pl.ab x.n.br (I6 x.n));have o:X1=T.pl.ab.modify k (I6 x.n):=by rw[u,hj];unfold C9;rw[show((k:Int)+1-1).toNat=k by omega]
 have am:Ep X1:=by rw[o];exact Rc ha (Ali _ _ _ (Ay3 x.n))
 have ao:I6 x.n l.pl=Em l.pl i x.n.bq:=by unfold I6;rw[s]
 have d:∀W,BW W0.heap.size W0 W->CS prog 102 #[K (O ⟨jb,0,I⟩),Z G x.n.attempt,Z G x.n.node] W λe w'=>e=Y (K (O ⟨pb,i*2,I⟩))/\w'=W:=λW hb=>by
  obtain⟨q1,q2⟩:=(a.tab.low hb).get b;refine(Ah7 q1 q2.parts x.n.attempt x.n.node).mono λe w' ⟨y,hp⟩=>⟨?_,y⟩;rcases hp with⟨c,_⟩|⟨k',aJ,c1,c2,_,c4⟩
  .rw [s]at c;cases c
  .rw [s]at c1;injection c1 with c1;rw[ad]at c2;injection c2 with c2;injection c2 with c2;rw[c4,<-c1,<-c2]
 have r:∀W,BW W0.heap.size W0 W->CS prog 140 #[K (O ⟨jb,0,I⟩),K (O ⟨pb,i*2,I⟩),Z G x.n.bq] W λe w'=>e=Y (.tuple #[])/\yt w T x (T.js.set k (jb,l.cz (Em l.pl i x.n.bq))) w':=λW hb=>by
  have hE:=a.low hb;obtain⟨q1,q2⟩:=hE.tab.get b;exact(Yu q1 q2.parts i ac pb ad x.n.bq).mono λe w' ⟨he,b1,b2,b3⟩=>⟨he,⟨hE.dv b b3 b1 b2 (Ay4 l i x.n.bq)⟩⟩
 rw[<-u,<-ht];rw[<-ht,<-hm]at aB;obtain⟨⟨kd,ep,tk,cl,sq,jn,an,nn,y⟩,so,sn,sc,dj⟩:=x;simp only at hj u d r;subst hj;have e5:=Bk a.box 5 (Z G ((k:Int)+1)) rfl;have e6:=Bk a.box 6 (Z G an) rfl;have e7:=Bk a.box 7 (Z G nn) rfl;have e8:=Bk a.box 8 (Z G y) rfl;have aI:(k:Int)<m:=ao9
 have aH:(0:Int)<=(k:Int):=ao9
 rw[hm.symm]at aC;replace⟨h,ha,a,b,ht,hm,u,o⟩:=H8 h ha a b ht hm u o;replace⟨am,ao,d,r,q,ac,ad,s⟩:=H8 am ao d r q ac ad s;clear c4 aE hk;go_enter func84,ntmps84;go_wp2_with fail;rw[<-al];clear al;go_quiet (fail);rename_i nq;go_upto_region 2 with fail;go_cut [] (λwx=>yt w T ⟨⟨kd,ep,tk,cl,sq,(k:Int)+1,an,nn,y⟩,so,sn,sc,dj⟩ (T.js.set k (jb,l.cz (Em l.pl i y))) wx)
 case first=>
  go_region_with (first
   | (go_at_call 102;((with_reducible refine(d.out _ (A4 _ _ _)).mono ?_);rintro e w1 ⟨rfl,aF⟩;rw[aF]))
   | (go_at_call 140;((with_reducible refine(r.out _ (A4 _ _ _)).mono ?_);rintro e w1 ⟨rfl,aD⟩)))
  all_goals
   go_wp2_with fail;go_meet;exact aD
 case rest=>
  obtain⟨z⟩:=hcut;have hX:(T.js.set k (jb,l.cz (Em l.pl i y))).map (λj=>j.2.pl)=X1:=by rw[N7 T.js b.out (f:=I6 ⟨kd,ep,tk,cl,sq,(k:Int)+1,an,nn,y⟩) (by rw[ao.out];rfl),o.out];rfl
  have av:CS prog 134 #[K (O ⟨tb,0,I⟩)] wc (Lh wc { T with js:=T.js.set k (jb,l.cz (Em l.pl i y)) } (Gk X1)):=by
   have:=Acd (T:={ T with js:=T.js.set k (jb,l.cz (Em l.pl i y)) }) z.tab.at_ (by
    show Ep ((T.js.set k (jb,l.cz (Em l.pl i y))).map λj=>j.2.pl)
    rw[hX];exact am.out)
   rw[show({ T with js:=T.js.set k (jb,l.cz (Em l.pl i y)) }:Tv).pl.ab=X1 from hX]at this;rw[ht.out];exact this
  clear aB cj e5 e6 e7 e8;replace⟨hX,av,z⟩:=H3 hX av z;go_wp2_with fail;refine av.mono ?_;rintro e w4 ⟨rfl,aG,aA,ap⟩
  have t:=z.then aA
  obtain⟨r0,r1,r2⟩:=C3 t.res;(try dsimp only at r0 r1 r2);have fr:=Ag t.res;replace⟨aA,ap,t⟩:=H3 aA ap t;go_wp2;refine Al (v:=Ir ⟨0,0,0,0⟩) (by simp[results,results84,go_sem,r0,r1,r2]) rfl ⟨rfl,aG,?_,ap.out⟩;exact t.rz h.out _ _ _
def Je (w:WD) (js js':List (Nat×aj)):Prop:=∀j,j∈js'->(0<j.2.sn->∀k o,j.2.so=O ⟨k,o,I⟩->k<w.heap.size->∃i,i∈js/\0<i.2.sn/\i.2.so=O ⟨k,o,I⟩)/\(0<j.2.gn->∀k o,j.2.go=O ⟨k,o,I⟩->k<w.heap.size->∃i,i∈js/\0<i.2.gn/\i.2.go=O ⟨k,o,I⟩)
def Je.refl (w:WD) (js:List (Nat×aj)):Je w js js:=λj a=>⟨λh _ _ e _=>⟨j,a,h,e⟩,λh _ _ e _=>⟨j,a,h,e⟩⟩
def B7.stays    (h:B7 w1 T js wr):Je w T.js js:=λj g=>by
 obtain⟨i,d⟩:=B4 g;have b:i<T.js.length:=by rw[<-h.len];exact(An.1 d).1
 have k:=A3 b;have a:=h.kp i _ j k d;refine⟨λh0 _ _ e _=>⟨_,J1 b,by rw[<-a.sn];exact h0,by rw[<-a.so];exact e⟩,λh0 _ _ e _=>?_⟩;rcases a.ah with⟨f,c,_⟩|⟨_,c,_⟩
 .exact ⟨_,J1 b,by rw[<-c];exact h0,by rw[<-f];exact e⟩
 .omega
def Je.trans  {a b c:List (Nat×aj)} (h:Je w a b) (k:Je w1 b c) (r:w.heap.size<=w1.heap.size):Je w a c:=λj m=>by
 obtain⟨n,p⟩:=k j m;refine⟨λh0 q o e l=>?_,λh0 q o e l=>?_⟩
 .obtain ⟨i,g,d,f⟩:=n h0 q o e ao9;exact(h i g).1 d q o f l
 .obtain ⟨i,g,d,f⟩:=p h0 q o e ao9;exact(h i g).2 d q o f l
structure Eb (w:WD) (T T':Tv) (w':WD):Prop where
 at_:Ao w' T'
 tb:T'.tb=T.tb
 fb:T'.fb=T.fb
 fm:T'.fm=T.fm
 fl:T'.fl=T.fl
 vs:T'.vs=T.vs
 ax:∀b,T'.ax b->T.ax b\/w.heap.size<=b
 mod:Mod T.ax w w'
 fh:Je w T.js T'.js
def Qp (w:WD) (T:Tv) (P:dq) (c:Cl) (e:Ending) (w':WD):Prop:=e=Y (Ir c)/\∃T',Eb w T T' w'/\T'.pl=P
def Alj   {X:List Jb} {c:Cl} {e:Ending}  (h:Adp w T X c e w'):Qp w T (T.pl.gq X) c e w':=by
 obtain⟨b,js,a,d⟩:=h;exact⟨b,{ T with js:=js },⟨a.at_,rfl,rfl,rfl,rfl,rfl,a.ax,a.mod,a.stays⟩,by rw[<-d];rfl⟩
def Ay7 (j:Jb) (k:Nat) (a:Int):(Kr j k a).sp=j.sp/\(Kr j k a).ah=j.ah:=by
 unfold Kr;split
 .exact ⟨rfl,rfl⟩
 .split<;>exact⟨rfl,rfl⟩
def Ay8 (j:Jb) (a:Int) (n:Nat):(Fq j a n).sp=j.sp/\(Fq j a n).ah=j.ah:=by
 induction n with
 | zero=>exact⟨rfl,rfl⟩
 | succ n ih=>
  obtain⟨h1,b⟩:=Ay7 (Fq j a n) n a;exact⟨h1.trans ih.1,b.trans ih.2⟩
def Adq (j:Jb) (a:Int):(E8 j a).sp=j.sp/\(E8 j a).ah=j.ah:=Ay8 _ _ _
def Alk (x:aj) (a:Int):I4 x (x.cz (E8 x.pl a)):=by
 obtain⟨h1,b⟩:=Adq x.pl a;exact⟨rfl,rfl,rfl,by show(E8 x.pl a).sp.after=_;rw[h1],by show(E8 x.pl a).sp.user=_;rw[h1],by show(E8 x.pl a).sp.part=_;rw[h1],.inl ⟨rfl,rfl,rfl,b⟩,λ_ h=>h⟩
def Ao.zg   (h:Ao w T) (h0:0<T.nodes.length):∃g cap,T.nv=V (O ⟨g,0,I⟩) T.nodes.length cap/\w.cell? ⟨T.tb,3,I⟩=O (V (O ⟨g,0,I⟩) T.nodes.length cap)/\T.nodes.length<=9223372036854775807:=by
 obtain⟨g,cap,e⟩:=Joins.ownsRow_form h.nodes h0;refine⟨g,cap,e,by rw[Aa h.head 3,<-e];rfl,?_⟩;rcases h.nodes.2 with⟨_,c⟩|⟨f,a,b,c,_,_,h1,d,_⟩
 .omega
 .unfold maxLen at d;omega
def Ao.ry   (h:Ao w T)  {n:E6} (b:T.nodes[i]?=O n)  (e:T.nv=V (O ⟨g,0,I⟩) T.nodes.length cap):w.cell? ⟨g,i*3,I⟩=O (Q n.up)/\w.cell? ⟨g,i*3+1,I⟩=O (Q n.bt)/\w.cell? ⟨g,i*3+2,I⟩=O (Z G n.since)/\∀o,w.frozen? ⟨g,o,I⟩=false:=by
 have s:=(An.1 b).1;have c:=h.nodes;rw[e]at c;have a:∀x:E6,(Ez x).size=3:=λ_=>rfl;have f:=F0 c (i*3) ao9;have k:=F0 c (i*3+1) ao9;have l:=F0 c (i*3+2) ao9;have d:=Gw a T.nodes (j:=0) b ao9;have p:=Gw a T.nodes (j:=1) b ao9;have q:=Gw a T.nodes (j:=2) b ao9;rw[Jo]at d;obtain⟨m,r,_⟩:=C7 h.nodes (g:=g) (by rw[e];rfl);exact⟨by rw[f,d];rfl,by rw[k,p];rfl,by rw[l,q];rfl,Ag r⟩
def Cz.setNode   {x:de} (h:Cz w T x T.js wr)  (e:T.nv=V (O ⟨g,0,I⟩) T.nodes.length cap) (i j:Nat) (v:VL) (f:E6->E6) (q:j<3) (p:∀x:E6,(Ez x).toList.set j v=(Ez (f x)).toList) :
  Cz w { T with nodes:=T.nodes.modify i f } x T.js (wr.setCell ⟨g,i*3+j,I⟩ v):=by
 have r:=h.tab.at_.nodes;have l:wr.ownsRow 0 119 3 (V (O ⟨g,0,I⟩) T.nodes.length cap) T.nodes.length (Aw Ez T.nodes):=by have:wr.ownsRow 0 119 3 T.nv T.nodes.length (Aw Ez T.nodes):=r;rw[e]at this;exact this
 have n:=Axh l (i*3+j) v;rw[Axi _ _ _ _ f q p]at n;have m:Mod (λk=>({ T with js:=T.js }:Tv).nv.ownBlock=O k) wr (wr.setCell ⟨g,i*3+j,I⟩ v):=Mod.setCell _ _ _ _ (by show T.nv.ownBlock=O g;rw[e];rfl)
 have o:=Ao.r9 (T:={ T with js:=T.js }) h.tab.at_ (T.nodes.modify i f) (Ic _ _ _) m (by
  rw[Ic];show(wr.setCell ⟨g,i*3+j,I⟩ v).ownsRow 0 119 3 T.nv _ _;rw[e]
  exact n)
 have d:∀k,T.nv.ownBlock=O k->T.ax k:=λk e=>.inr (.inr (.inl e));have a:=m.mono λk _ e=>d k e;refine⟨⟨o,rfl,λb c=>.inl c,h.tab.mod.trans a,h.tab.kp⟩,a.au h.box (h.tab.at_.off h.box ad9 ad9 ad9 ad9 ad9),a.au h.res (h.tab.at_.off h.res ad9 ad9 ad9 ad9 ad9)⟩
def Cz.jw  {T a:Tv} {x:de}  (h:Cz w a x js wr) (h0:Ao w T) (d:a.js=T.js) (f:a.tb=T.tb) (s t u:VL):B7 w a js (((wr.setCell ⟨w.heap.size+1,0,I⟩ s).setCell ⟨w.heap.size+1,1,I⟩ t).setCell ⟨w.heap.size+1,2,I⟩ u):=by
 have q:=(((Mod.refl (λk=>k=w.heap.size+1) wr).set _ 0 s rfl).set _ 1 t rfl).set _ 2 u rfl;refine⟨h.tab.at_.gl h.res q (by show a.tb<_;rw[f];have:=Ab h0.head;omega) ad9 ad9 ad9 ad9 ad9 ad9 λj v=>?_,h.tab.au,h.tab.ax,h.tab.mod.then q (λk c e=>by omega),h.tab.kp⟩;obtain⟨i,n⟩:=B4 v;have p:i<a.js.length:=by rw[<-h.tab.len];exact(An.1 n).1
 have y:=A3 p;have c:=h.tab.kp i _ j y n;have g:a.js[i]∈T.js:=by rw[<-d];exact J1 p
 have r:=h0.ok _ g;refine⟨λb k o e=>?_,λb k o e=>?_⟩
 .rw [c.sn]at b;rw[c.so]at e;have:=Mc r.after.row b e;omega
 .rcases c.ah with⟨l,m,_⟩|⟨l,m,_⟩
  .rw [m]at b;rw[l]at e;have:=Mc r.ah.row b e;omega
  .omega
def Ay9   (x:de) (h:Ao w T):CS prog 81 #[K (O ⟨T.tb,0,I⟩),x.val] w (Qp w T { T.pl with ai:=x.n.ai } ⟨0,0,0,0⟩):=by
 have a:=Cz.new h x;obtain⟨f,i⟩:=Ex ((w.alloc (J x.cells 40 (0,0))).alloc (J #[Z G 0,Z G 0,Z G 0] 35 (0,0)));rw[<-i]at a;obtain⟨g,m⟩:=Ex (T.tb);rw[<-m];have o:f.heap[g]?=O (J #[Z G T.ai,Z G T.tick,.map (O T.mb),T.nv,T.jv,K (O ⟨T.fb,0,I⟩),T.cv] 115 (0,0)):=by rw[m];exact a.tab.at_.head
 have c0:=Bk o 0 (Z G T.ai) rfl;have f0:=Ag o;obtain⟨⟨kd,d,tk,cl,sq,jn,an,nn,hw⟩,so,sn,sc,dj⟩:=x;have e1:=Bk a.box 1 (Z G d) rfl;obtain⟨y,z,r2⟩:=C3 a.res;(try dsimp only at y z r2);have fr:=Ag a.res;have l:g≠w.heap.size+1:=by rw[m];have:=Ab h.head;omega
 replace⟨h,a,m,o,l⟩:=H5 h a m o l;go_enter func81,ntmps81;go_upto_region 1 with fail;rw[<-i];clear i;have p:=l.out;have q:=p.symm;have u:¬(w.heap.size+1=g):=q;go_wp2;refine Al (v:=Ir ⟨0,0,0,0⟩) (by simp[results,results81,go_sem,y,z,r2]) rfl ⟨rfl,?_⟩
 have r:Cz w { T with ai:=d } ⟨⟨kd,d,tk,cl,sq,jn,an,nn,hw⟩,so,sn,sc,dj⟩ T.js (f.setCell ⟨g,0,I⟩ (Z G d)):=by
  have t:Mod (λk=>k=T.tb) f (f.setCell ⟨g,0,I⟩ (Z G d)):=Mod.setCell _ _ _ _ m.out
  have hA:=a.tab.at_.py (w':=f.setCell ⟨g,0,I⟩ (Z G d)) d T.tick t (by
   show(f.setCell ⟨g,0,I⟩ (Z G d)).heap[T.tb]?=_;rw[<-m.out,Ap o.out]
   rfl)
  have j:Mod T.ax f (f.setCell ⟨g,0,I⟩ (Z G d)):=t.mono λk _ e=>by rw[e];exact .inl rfl
  exact⟨⟨hA,rfl,λb c=>.inl c,a.tab.mod.trans j,a.tab.kp⟩,j.au a.box (a.tab.at_.off a.box ad9 ad9 ad9 ad9 ad9),j.au a.res (a.tab.at_.off a.res ad9 ad9 ad9 ad9 ad9)⟩
 have s:=r.jw h.out rfl rfl (Z G 0) (Z G 0) (Z G 0);exact⟨{ T with ai:=d },⟨s.at_,rfl,rfl,rfl,rfl,rfl,s.ax,s.mod,Je.refl _ _⟩,rfl⟩
def Azl {α:Type} (l:List α) (i:Nat) (f g:α->α):(l.modify i f).modify i g=l.modify i λx=>g (f x):=by
 apply Eh;intro k;rw[Dj,Dj,Dj];by_cases h:i=k
 .simp [h,Jk]
 .simp [h]
def Azm   (x:de) (h:Ao w T) (ha:Ep T.pl.ab) (i:Nat) (hi:i<T.nodes.length) (aQ:x.n.node=(i:Int)) (aV:8<=x.n.kind/\x.n.kind<=11) :
  CS prog 85 #[K (O ⟨T.tb,0,I⟩),x.val] w (Qp w T (Md T.pl x.n) ⟨0,0,0,0⟩):=by
 have d:=Cz.new h x;obtain⟨W0,s⟩:=Ex ((w.alloc (J x.cells 40 (0,0))).alloc (J #[Z G 0,Z G 0,Z G 0] 35 (0,0)));rw[<-s]at d;obtain⟨g,cap,av,c3,aA⟩:=Ao.zg (T:={ T with js:=T.js }) d.tab.at_ (by show 0<T.nodes.length;omega);have o:=av;have aN:=c3;have aG:=aA;obtain⟨nd,aI⟩:=Ge T.nodes i hi;obtain⟨n0,n1,n2,fn⟩:=Ao.ry (T:={ T with js:=T.js }) d.tab.at_ aI av;obtain⟨tb,ht⟩:=Ex (T.tb);obtain⟨m,hm⟩:=Ex (T.nodes.length);obtain⟨P,hP⟩:=Ex (Md T.pl x.n);rw[<-ht,<-hP];rw[<-ht,<-hm]at aN;rw[<-hm]at aG
 have ao:g≠w.heap.size+1:=λe=>by
  have:=d.tab.at_.off d.res ad9 ad9 ad9 ad9 ad9;exact this (.inr (.inr (.inl (by show T.nv.ownBlock=_;rw[o,e];rfl))))
 obtain⟨⟨kd,ep,tk,cl,sq,jn,an,nn,hw⟩,so,sn,sc,dj⟩:=x;simp only at aQ aV;subst aQ;have e0:=Bk d.box 0 (Z G kd) rfl;have e2:=Bk d.box 2 (Z G tk) rfl;have e7:=Bk d.box 7 (Z G (i:Int)) rfl;obtain⟨r0,r1,r2⟩:=C3 d.res;(try dsimp only at r0 r1 r2);have fr:=Ag d.res;have a1:(i:Int)<m:=ao9
 have a0:(0:Int)<=(i:Int):=ao9
 have aU:¬(g=w.heap.size+1):=ao;clear c3 aA ao;replace⟨h,ha,d,av,o,aI,ht,hm⟩:=H8 h ha d av o aI ht hm;replace hP:=Hh hP;by_cases q8:kd=8
 .subst q8;obtain⟨aS,aP,ap,aZ,aH,_⟩:=h.og;obtain⟨mj,z⟩:=Ex (T.js.length);obtain⟨r,a⟩:∃r:Tv,r={ T with nodes:=T.nodes.modify i (λn=>⟨false,n.bt,n.since⟩) }:=⟨_,rfl⟩;have l:P={ r.pl with ab:=Gk (r.pl.ab.map λj=>E8 j (i:Int)) }:=by rw[hP.out,a];unfold Md;rw[Ad rfl];show _=_;simp only[K7];rfl
  have row:∀(js:List (Nat×aj)) (W:WD),Cz w r ⟨⟨8,ep,tk,cl,sq,jn,an,(i:Int),hw⟩,so,sn,sc,dj⟩ js W->∀k,k<mj->∃g j,aS=O ⟨g,0,I⟩/\js[k]?=O j/\W.cell? ⟨g,k,I⟩=O (K (O ⟨j.1,0,I⟩)):=λjs W hW k hk=>by
   have hl:js.length=mj:=(by rw[z,hW.tab.len,a]);obtain⟨j,hj⟩:=Ge js k ao9;obtain⟨aY,aO,e1,_,_,hr⟩:=hW.tab.at_.og;obtain⟨g,e2,hc⟩:=hr k j hj;have e3:T.jv=V aY js.length aO:=(by rw[<-e1,a]);rw[ap]at e3;injection e3 with e3 _ _;exact⟨g,j,e3.trans e2,hj,hc⟩
  have c4:W0.cell? ⟨tb,4,I⟩=O (V aS mj aP):=by rw[ht.out,Aa d.tab.at_.head 4,z,<-ap];rfl
  rw[z.symm]at aH;have al:Ep r.pl.ab:=by rw[a];exact ha.out
  have aC:r.pl.ab.length=mj:=by rw[z,a];simp[Tv.pl]
  replace⟨ap,z,l,row,al,aC⟩:=H6 ap z l row al aC;go_enter Xn,Xm;go_wp2_with fail;rw[<-s];clear s;go_quiet (fail);rename_i nq;have q:Cz w r ⟨⟨8,ep,tk,cl,sq,jn,an,(i:Int),hw⟩,so,sn,sc,dj⟩ r.js ((W0.drewN nq).setCell ⟨g,i*3,I⟩ (Q false)):=by rw[a];exact(d.low (A4 _ W0 nq)).setNode o.out i 0 (Q false) (λn=>⟨false,n.bt,n.since⟩) ao9 (λ_=>rfl)
  replace⟨q,a⟩:=H2 q a;go_wp2;generalize (W0.drewN nq).setCell ⟨g,i*3,I⟩ (Q false)=W2 at q ⊢;clear c4 aN n0 n1 n2 fn e0 e2 e7 r0 r1 r2 fr aU;go_loopw [7,35] (λ_ i2 wr=>∃(k:Nat) (js:List (Nat×aj)),i2=Z G k/\k<=mj/\Hid (Cz w r ⟨⟨8,ep,tk,cl,sq,jn,an,(i:Int),hw⟩,so,sn,sc,dj⟩ js wr)/\Hid (js.map (λj=>j.2.pl)=Er (λj=>E8 j (i:Int)) r.pl.ab k)) (λ_ i2 _=>mj-(intOf i2).toNat)
  case atStart=>exact⟨0,r.js,rfl,As _,q.out,rfl⟩
  case round=>
   obtain⟨k,js,rfl,hk,hE,hX⟩:=hrel;by_cases hc:k<mj
   .have aT:(k:Int)<mj:=ao9;have a2:(0:Int)<=(k:Int):=ao9;obtain⟨g2,j,rfl,hj,cr⟩:=row _ _ hE.out k hc;obtain⟨jb,jx⟩:=j;obtain⟨aD,aJ⟩:=hE.tab.get hj;have e7:=Bk hE.box 7 (Z G (i:Int)) rfl;have aE:=Ah0 aD aJ.parts (i:Int);replace⟨hj,aD,aJ,aE⟩:=H4 hj aD aJ aE;go_wp2_with fail;refine aE.mono ?_;rintro e w3 ⟨rfl,hG⟩;have ac:=hE.dv hj.out hG.mod hG.box hG.parts (Alk jx (i:Int));have aB:(js.set k (jb,jx.cz (E8 jx.pl (i:Int)))).map (λj=>j.2.pl)=Er (λj=>E8 j (i:Int)) r.pl.ab (k+1):=(by rw[N7 js hj.out (f:=λj=>E8 j (i:Int)) rfl,hX.out];rfl);clear hG;replace⟨ac,aB⟩:=H2 ac aB;go_wp2;go_roundw
    case rel=>exact⟨k+1,_,by go_num,ao9,ac.out,aB.out⟩
    case measure=>simp[intOf];omega
   .have aT:¬(k:Int)<mj:=ao9;have aF:k=mj:=ao9;have y:=hX.out;rw[aF,<-aC.out,S5]at y;obtain⟨X2,t⟩:=Ex (r.pl.ab.map λj=>E8 j (i:Int));rw[<-t]at y;have am:Ep X2:=by rw[t,<-S5];exact Rc al.out (Yv _ (λj=>(Adq j _).1) _ _)
    have aL:CS prog 134 #[K (O ⟨tb,0,I⟩)] wr (Lh wr { r with js:=js } (Gk X2)):=by
     have:=Acd (T:={ r with js:=js }) hE.tab.at_ (by
      show Ep (js.map λj=>j.2.pl)
      rw[y];exact am)
     rw[show({ r with js:=js }:Tv).pl.ab=X2 from y]at this;rw[show tb=({ r with js:=js }:Tv).tb from by rw[ht.out,a.out]];exact this
    replace⟨y,t,am,aL,aF⟩:=H5 y t am aL aF;go_wp2_with fail;refine aL.mono ?_;rintro e w4 ⟨rfl,aW,aM,aK⟩
    have ad:=hE.then aM
    obtain⟨r0,r1,r2⟩:=C3 ad.res;(try dsimp only at r0 r1 r2);have fr:=Ag ad.res;replace⟨aM,aK,ad⟩:=H3 aM aK ad;go_wp2;refine Al (v:=Ir ⟨0,0,0,0⟩) (by simp[results,results85,go_sem,r0,r1,r2]) rfl ⟨rfl,?_⟩;have u:=ad.jw h.out (by rw[a.out]) (by rw[a.out]) (Z G 0) (Z G 0) (Z G 0);refine⟨{ r with js:=aW },⟨u.at_,by rw[a.out],by rw[a.out],by rw[a.out],by rw[a.out],by rw[a.out],?_,?_,?_⟩,?_⟩
    .intro b c;have:=u.ax b c;rw[a.out]at this;exact this
    .have:=u.mod;rw[a.out]at this;exact this
    .have:=u.stays (w:=w);rw[a.out]at this;exact this
    .rw [l.out,<-t.out,<-aK.out];rfl
 .by_cases q9:kd=9
  .subst q9;have l:P={ T.pl with nodes:=T.pl.nodes.modify (i:Int).toNat (λn=>⟨true,n.bt,tk⟩) }:=(by rw[hP.out];rfl);replace⟨l,q8⟩:=H2 l q8;go_enter Xn,Xm;go_wp2_with fail;rw[<-s];clear s;go_quiet (fail);rename_i nq;have p:=d.low (A4 _ W0 nq);replace p:=Hh p;go_wp2_with fail;go_region_with (fail)
   all_goals
    go_wp2;refine Al (v:=Ir ⟨0,0,0,0⟩) (by simp[results,results85,go_sem,r0,r1,r2]) rfl ⟨rfl,?_⟩;have q:=(d.low (A4 _ W0 (nq+1))).setNode o.out i 0 (Q true) (λn=>⟨true,n.bt,n.since⟩) ao9 (λ_=>rfl);have ac:=Cz.setNode (T:={ T with nodes:=T.nodes.modify i (λn=>⟨true,n.bt,n.since⟩) }) q (by show T.nv=_;rw[Ic];exact o.out) i 2 (Z G tk) (λn=>⟨n.up,n.bt,tk⟩) ao9 (λ_=>rfl);have u:=ac.jw h.out rfl rfl (Z G 0) (Z G 0) (Z G 0);exact⟨{ T with nodes:=(T.nodes.modify i (λn=>⟨true,n.bt,n.since⟩)).modify i (λn=>⟨n.up,n.bt,tk⟩) },⟨u.at_,rfl,rfl,rfl,rfl,rfl,u.ax,u.mod,Je.refl _ _⟩,by rw[l.out,K7,Azl];rfl⟩
  .by_cases aR:kd=10
   .subst aR;have l:P={ T.pl with nodes:=T.pl.nodes.modify (i:Int).toNat (λn=>⟨n.up,true,n.since⟩) }:=(by rw[hP.out];rfl);replace⟨l,q8,q9⟩:=H3 l q8 q9;go_enter Xn,Xm;go_wp2_with fail;rw[<-s];clear s;go_quiet (fail);rename_i nq;have p:=d.low (A4 _ W0 nq);replace p:=Hh p;go_wp2;refine Al (v:=Ir ⟨0,0,0,0⟩) (by simp[results,results85,go_sem,r0,r1,r2]) rfl ⟨rfl,?_⟩;have q:=p.setNode o.out i 1 (Q true) (λn=>⟨n.up,true,n.since⟩) ao9 (λ_=>rfl);have u:=q.jw h.out rfl rfl (Z G 0) (Z G 0) (Z G 0);exact⟨{ T with nodes:=T.nodes.modify i (λn=>⟨n.up,true,n.since⟩) },⟨u.at_,rfl,rfl,rfl,rfl,rfl,u.ax,u.mod,Je.refl _ _⟩,by rw[l.out,K7];rfl⟩
   .have aX:kd=11:=ao9;clear aR;subst aX;have l:P={ T.pl with nodes:=T.pl.nodes.modify (i:Int).toNat (λn=>⟨n.up,false,n.since⟩) }:=(by rw[hP.out];rfl);replace⟨l,q8,q9⟩:=H3 l q8 q9;go_enter Xn,Xm;go_wp2_with fail;rw[<-s];clear s;go_quiet (fail);rename_i nq;have p:=d.low (A4 _ W0 nq);replace p:=Hh p;go_wp2;refine Al (v:=Ir ⟨0,0,0,0⟩) (by simp[results,results85,go_sem,r0,r1,r2]) rfl ⟨rfl,?_⟩;have q:=p.setNode o.out i 1 (Q false) (λn=>⟨n.up,false,n.since⟩) ao9 (λ_=>rfl);have u:=q.jw h.out rfl rfl (Z G 0) (Z G 0) (Z G 0);exact⟨{ T with nodes:=T.nodes.modify i (λn=>⟨n.up,false,n.since⟩) },⟨u.at_,rfl,rfl,rfl,rfl,rfl,u.ax,u.mod,Je.refl _ _⟩,by rw[l.out,K7];rfl⟩
def Azn   (h:Ao w T):CS prog 28 #[K (O ⟨T.tb,0,I⟩)] w λe w'=>e=Y (Z G T.tick)/\w'=w:=by
 have c:=Bk h.head 1 (Z G T.tick) rfl;replace h:=Hh h;go_enter func28,ntmps28;go_wp2;go_ret;exact⟨rfl,rfl⟩
def Azo (w:WD):(zeroValue 123).run prog w=.ok (Js Cl.zero) w:=by kernel_rfl
def zk {n:Int} (h1:-9223372036854775808<=n) (a:n<=9223372036854775807):(Lit.int G n).wf=true:=by
 simp[Lit.wf,IntKind.min,IntKind.max,IntKind.signed,IntKind.bits];omega
def Alq  {d:Nat} {l:List (Int×Cl)} (h:M3 w d l) {a:Int} (h1:-9223372036854775808<=a) (f:a<=9223372036854775807):(Instr.lookup 108 (.map (O d)) (Z G a) false).run prog w=.ok (Js (Lc l a)) w:=by
 obtain⟨v,g,b,c⟩:=World.ownsMap.lookup h (int_keyed Ed) underlying108 (Azo w) (Ag7 Cl.zero) (keyOf_int_mk Ed (zk h1 f))
 have:v=Js (Lc l a):=by have e:=Arr l a;unfold Gz at e;rw[e]at c;exact Aro c
 rw[b,this]
def Alr:(prog.info? 65).map (λi=>(i.zero,i.size,i.bytes))=O (O (.agg #[Z G 0,Z G 0]),2,16):=by kernel_rfl
def Zm (w:WD) (x:aj) (e:Ending) (w':WD):Prop:=∃po pc,e=Y (V po x.pn pc)/\w'.ownsRow w.heap.size 65 2 (V po x.pn pc) x.pn (Aw Fr x.pl.parts)/\BW w.heap.size w w'
def Azs  {x:aj} (h:Ca w x) (hn:x.pn<=1000000):CS prog 88 #[V x.po x.pn x.pc] w (Zm w x):=by
 obtain⟨i0,hi,y,z,ac⟩:=Cf Alr;have q:=Ks h;have mx:maxLen=9223372036854775807:=by kernel_rfl
 have qN:∀(w:WD) (a:Option Addr) (n c n' c':Nat),(binOp .eql 44 (V a n c) (V I n' c')).run prog w=.ok (Q a.isNone) w:=λw a n c n' c'=>Lib.run_eql_slice_nil w _ _ a n c n' c' Aa0;obtain⟨n,m⟩:=Ex (x.pn);rcases h.2 with⟨e,h0⟩|⟨g,cap,aB,e,_,hg,ap,an,ao,av⟩
 .simp at e;obtain⟨e1,e2,e3⟩:=e;have t:x.pl.parts=[]:=List.eq_nil_of_length_eq_zero ao9;rw[e1,e2,e3];have d:Zm w x (Y (V I 0 0)) w:=⟨I,0,by rw[e2],by rw[e2,t];exact Mr _ _ _ _,Below.refl _ _⟩;clear hi y z ac m;replace⟨d,h,e1,e2,e3,t,q,h0⟩:=H8 d h e1 e2 e3 t q h0;replace hn:=Hh hn;go_enter func88,ntmps88;go_wp2;go_ret;exact d.out
 .simp at e;obtain⟨e1,e3⟩:=e;have v:BW w.heap.size w (w.alloc (J #[] 65)):=Bn;have o:(w.alloc (J #[] 65)).ownsRow w.heap.size 65 2 (V (O ⟨w.heap.size,0,I⟩) 0 0) 0 []:=⟨rfl,.inr ⟨w.heap.size,0,#[],rfl,Nat.le_refl _,Ah _ _,Nat.le_refl _,ao9,rfl,rfl⟩⟩
  have ad:=λj u hu=>by
   have h2:(w.alloc (J #[] 65)).ownsRow 0 65 2 (V x.po x.pn x.pc) x.pn (Aw Fr x.pl.parts):=Ca.low h v;exact World.ownsRow.cells h2 (g:=g) (by rw[e1];rfl) j u hu
  have al:(Aw Fr x.pl.parts).length=n*2:=by rw[Ahz,q,m]
  have s:∀u∈Aw Fr x.pl.parts,u.oneCell'=true:=λu hu=>by
   unfold Aw at hu;obtain⟨p,_,t⟩:=List.mem_flatMap.1 hu;simp at t
   rcases t with rfl|rfl<;>rfl
  have d:∀po pc W,W.ownsRow w.heap.size 65 2 (V po n pc) n (Aw Fr x.pl.parts)->BW w.heap.size w W->Zm w x (Y (V po n pc)) W:=λpo pc W a b=>⟨po,pc,by rw[m],by rw[m]at a;exact a,b⟩;rw[e1,<-m];obtain⟨pc,am⟩:=Ex (x.pc);rw[<-am];have aC:n<=1000000:=ao9
  replace⟨d,h,e1,e3,q,hn,hi,y⟩:=H8 d h e1 e3 q hn hi y;replace⟨z,ac,v,o,ad,al,s,m⟩:=H8 z ac v o ad al s m;replace⟨hg,ap,an,ao,av,am⟩:=H6 hg ap an ao av am;go_enter func88,ntmps88;go_wp2_with (at_builtin;refine Ms _ rfl _ _ 44 rfl w.heap.size 65 i0 (.agg #[Z G 0,Z G 0]) 2 16 Aa0 hi.out y.out z.out ac.out rfl ad9 _ _ _ rfl o.out ⟨g,0,I⟩ n pc (Aw Fr x.pl.parts) rfl al.out ad.out s.out ?c3 ?c4 ?c5 ?c6)
  case c3=>omega
  case c4=>omega
  case c5=>simp
  case c6=>
   intro v' w2 f i r;have l:=v.grown i as9 (λk hk=>(o.lt k hk).1);rcases Joins.ownsRow_forms f with⟨rfl,h0⟩|⟨g2,aA,rfl⟩
   .exact absurd rfl r
   .have t:=d _ _ w2 f l;replace⟨f,i,l,t,r⟩:=H5 f i l t r;go_wp2;go_ret;exact t.out
def A0n   (h:Ao w T)  {j:Nat×aj} (hj:T.js[i]?=O j) (hr:∀f,f∈j.2.pl.sp.after->1<=f/\f<=(T.js.length:Int)) :
  CS prog 189 #[K (O ⟨T.tb,0,I⟩),K (O ⟨j.1,0,I⟩)] w λe w'=>e=Y (Q (Ey T.pl.ab j.2.pl))/\BW w.heap.size w w':=by
 have b:=Ai hj;have cs:=Bk (h.box j b) 13 (V j.2.so j.2.sn j.2.sc) rfl;have ct:=Bk (h.box j b) 14 (Z G j.2.pl.lf.st) rfl;have ak:=(h.ok j b).after.row;obtain⟨z,c⟩:=Ex (w.alloc (J #[K (O ⟨T.tb,0,I⟩)] 27 (0,0)));have a:BW w.heap.size w z:=by rw[c];exact Bn
 have x:z.cell? ⟨w.heap.size,0,I⟩=O (K (O ⟨T.tb,0,I⟩)):=by rw[c];exact Aa (Ah _ _) 0
 have p:w.heap.size<z.heap.size:=by rw[c];simp
 have l:=(Af a (Ab (h.box j b))).trans cs;have m:=(Af a (Ab (h.box j b))).trans ct
 have g:=Ahr 247 #[K (O ⟨w.heap.size,0,I⟩)] (λf=>!decide (I1 T.pl.ab f=5)) j.2.so j.2.sn j.2.sc j.2.pl.sp.after z (ak.low a) Ax7 (λf ac w1 o=>by
  obtain⟨h1,h2⟩:=hr f ac;obtain⟨k,rfl⟩:∃k:Nat,f=(k:Int)+1:=⟨(f-1).toNat,ao9⟩
  exact(Ax8 ((h.low a).low o) w.heap.size ((Af o p).trans x) k ao9).mono λe w' ⟨he,hw⟩=>⟨he,by rw[hw];exact Below.refl _ _⟩)
 obtain⟨q,hq⟩:=Ex ((j.2.pl.sp.after.any λf=>!decide (I1 T.pl.ab f=5)));have hz:Ey T.pl.ab j.2.pl=(decide (j.2.pl.lf.st=1) && !q):=by rw[hq];unfold Ey;rw[List.all_eq_not_any_not]
 rw[<-hq]at g;rw[hz];obtain⟨tb,y⟩:=Ex (T.tb);obtain⟨jb,n⟩:=Ex (j.1);obtain⟨so,u⟩:=Ex (j.2.so);obtain⟨sn,t⟩:=Ex (j.2.sn);obtain⟨sc,s⟩:=Ex (j.2.sc);obtain⟨st,v⟩:=Ex (j.2.pl.lf.st);rw[<-u,<-t,<-s]at g l;rw[<-n]at l m;rw[<-v]at m ⊢;rw[c,<-y]at g;rw[c,<-y]at a l m;rw[<-y,<-n];clear hq hz ak cs ct x p c u t s n y h hj hr b v;by_cases r:st=1
 .subst r;replace⟨g,a⟩:=H2 g a;go_enter func189,ntmps189;go_wp2_with fail;refine(g.out).mono ?_;rintro e w' ⟨rfl,hb⟩;have d:=a.trans (hb.mono a.size);replace⟨d,hb⟩:=H2 d hb;go_wp2;go_ret;exact⟨as9,d.out⟩
 .replace ⟨g,a⟩:=H2 g a;go_enter func189,ntmps189;go_wp2_with fail
  all_goals
   go_ret;exact⟨by simp[r],a.out⟩
end
section
open Go.ChangeShapes Go.WideShapes Go.ChangeAt Go.RowKit
def A2b:prog.cellsOf 38=1:=by kernel_rfl
def Am7:prog.cellsOf 40=10:=by kernel_rfl
def A2c {α:Type} {l:List α} (h:l.length=10):∃a b c d e f g i j k,l=[a,b,c,d,e,f,g,i,j,k]:=by
 match l,h with
 | [a,b,c,d,e,f,g,i,j,k],_=>exact⟨a,b,c,d,e,f,g,i,j,k,rfl⟩
abbrev R0 (w:WD) (so:Option Addr) (n:Nat) (xs:List de):Prop:=Ag4 de.cells 10 de.ok w so n xs
def R0.low {w w':WD} {so:Option Addr} {n:Nat} {xs:List de} (h:R0 w so n xs) (c:BW w.heap.size w w'):R0 w' so n xs:=
 ⟨h.len,h.max,λi x l=>by
  obtain⟨b,d,e,a,f,k⟩:=h.cell i x l
  exact⟨b,d,e,Bq a c.size,λj g=>(Af c a).trans (f j g),k.low c⟩⟩
section
variable {H:Type} {enc:TypeId×VL->H} {w:WD} {held:Bool} {fuel:Nat} {cs:List VL} {x:DataW H×List MemPlace}
def A2d {c:VL} (h:DataW.trod enc prog w 0 (λ_=>true) held fuel 38 [c]=O x):∃a n b xs,c=V a n b/\Kv w a n xs/\n<=b:=by
 obtain⟨a,n,b,xs,e,d,f⟩:=Abz ay.zero ay.cells 13 (λw s=>s.ok w) underlying38 Am6 ad9 (λ_=>rfl) (λfuel cs x h=>A2a h) h;exact⟨a,n,b,xs,e,⟨d.len,d.max,d.cell⟩,f⟩
def A2e (h:DataW.trod enc prog w 0 (λ_=>true) held fuel 40 cs=O x):∃a:de,cs=a.cells.toList/\a.ok w:=by
 obtain⟨xs,n,_,rfl,hl,c,b⟩:=DataW.trod_struct underlying40 h;rw[Am7]at hl;obtain⟨c0,c1,c2,c3,c4,c5,c6,c7,c8,c9,rfl⟩:=A2c hl
 match xs,c with
 | [y0,y1,y2,y3,y4,y5,y6,y7,y8,y9],_=>
  have h0:=b 0 _ rfl;have h1:=b 1 _ rfl;have r:=b 2 _ rfl;have s:=b 3 _ rfl;have t:=b 4 _ rfl;have u:=b 5 _ rfl;have v:=b 6 _ rfl;have y:=b 7 _ rfl;have z:=b 8 _ rfl;have h9:=b 9 _ rfl;simp[Q7,A2b]at h0 h1 r s t u v y z h9;obtain⟨n0,e,_,w0⟩:=Jn Ed h0;obtain⟨n1,f,_,w1⟩:=Jn Ed h1;obtain⟨n2,g,_,w2⟩:=Jn Ed r;obtain⟨n3,j,_,w3⟩:=Jn Ed s;obtain⟨n4,k,_,w4⟩:=Jn Ed t;obtain⟨n5,l,_,w5⟩:=Jn Ed u;obtain⟨n6,o,_,w6⟩:=Jn Ed v;obtain⟨n7,p,_,w7⟩:=Jn Ed y;obtain⟨n8,q,_,w8⟩:=Jn Ed z;obtain⟨so,m,cp,zs,rfl,hz,d⟩:=A2d h9;simp at e f g j k l o p q;subst e f g j k l o p q;refine⟨⟨⟨n0,n1,n2,n3,n4,n5,n6,n7,n8⟩,so,m,cp,zs⟩,rfl,⟨hz,d,λi=>?_⟩⟩;have b0:=Pk w0;have b1:=Pk w1;have b2:=Pk w2;have b3:=Pk w3;have b4:=Pk w4;have b5:=Pk w5;have b6:=Pk w6;have b7:=Pk w7;have b8:=Pk w8;unfold dm.get
  split<;>first|assumption|omega
end
section
variable {H:Type} {enc:TypeId×VL->H} {w:WD} {held:Bool} {b0:Nat} {r:Reach} {v:VL} {d:DataW H} {p:List MemPlace}
end
end
section
open Go.ChangeShapes Go.WideShapes Go.ChangeAt Go.RowKit
variable {H:Type} {enc:TypeId×VL->H} {w:WD} {held:Bool} {b0:Nat} {r:Reach} {v:VL} {d:DataW H} {p:List MemPlace}
def An2 (k:Value.okWide prog w r b0 51 v) (h:DataW.Trod enc prog w 0 (λ_=>true) held 51 v d p):∃a n b xs,v=V a n b/\R0 w a n xs/\n<=b:=by
 obtain⟨f,g⟩:=h
 have c:v.cells.toList=[v]:=by
  simp only[Value.okWide,underlying51,Cell.okWide]at k
  cases v<;>simp_all [Value.cells,Cell.ok]
 rw[c]at g;obtain⟨a,n,b,xs,e,j,i⟩:=Abz (⟨⟨0,0,0,0,0,0,0,0,0⟩,I,0,0,[]⟩:de) de.cells 10 (λw s=>s.ok w) underlying51 Am7 ad9 (λ_=>rfl) (λ_ _ _ h=>A2e h) g;exact⟨a,n,b,xs,e,j,i⟩
