/- Parts Opx, Sml, Tkf. Plain theorems: no condition. -/
import Derived.Test.YtimlcnhcjndijaaGreatDoorQ45
import Derived.Test.YtimlcnhcjndijaaGreatDoorQ38
set_option linter.all false
set_option maxRecDepth 100000
set_option maxHeartbeats 3200000
namespace Go.Proofs.YtimlcnhcjndijaaGreatDoor
open Go.ChangeShapes Go.WideShapes Go.ChangeAt Go.RowKit
def Ays:Tryz.prog.cellsOf 38=1:=by kernel_rfl
def Ayt:Tryz.prog.cellsOf 40=10:=by kernel_rfl
def Ayu {α:Type} {l:List α} (h:l.length=10):∃ a b c d e f g i j k,l=[a,b,c,d,e,f,g,i,j,k]:=by
 match l,h with
 | [a,b,c,d,e,f,g,i,j,k],_=>exact ⟨a,b,c,d,e,f,g,i,j,k,rfl⟩
abbrev Ai1 (w:World) (so:Option Addr) (n:Nat) (xs:List cu):Prop:=Acb cu.cells 10 cu.ok w so n xs
section
variable {H:Type} {enc:TypeId×Value->H} {w:World} {held:Bool} {fuel:Nat} {cs:List Value} {x:DataW H×List MemPlace}
def Ayv {c:Value} (h:DataW.trod enc Tryz.prog w 0 (fun _=>true) held fuel 38 [c]=some x):∃ b n d xs,c=.slice b n d/\Kc w b n xs/\n<=d:=by
 obtain ⟨b,n,d,xs,e,f,g⟩:=Acc au.zero au.cells 13 (fun w s=>s.ok w) Tryz.underlying38 Ai0 (by decide) (fun _=>rfl) (fun a cs x h=>Ayr h) h;exact ⟨b,n,d,xs,e,⟨f.len,f.max,f.cell⟩,g⟩
def Ayw (h:DataW.trod enc Tryz.prog w 0 (fun _=>true) held fuel 40 cs=some x):∃ a:cu,cs=a.cells.toList/\a.ok w:=by
 obtain ⟨xs,n,_,rfl,e,c,b⟩:=DataW.trod_struct Tryz.underlying40 h;rw [Ayt] at e;obtain ⟨c0,c1,c2,c3,c4,c5,c6,c7,c8,c9,rfl⟩:=Ayu e
 match xs,c with
 | [y0,y1,y2,y3,y4,y5,y6,y7,y8,y9],_=>
  have h0:=b 0 _ rfl;have h1:=b 1 _ rfl;have f:=b 2 _ rfl;have g:=b 3 _ rfl;have j:=b 4 _ rfl;have k:=b 5 _ rfl;have l:=b 6 _ rfl;have o:=b 7 _ rfl;have p:=b 8 _ rfl;have q:=b 9 _ rfl;simp [P4,Ays] at h0 h1 f g j k l o p q;obtain ⟨n0,r,_,w0⟩:=G8 Da h0;obtain ⟨n1,s,_,w1⟩:=G8 Da h1;obtain ⟨n2,t,_,w2⟩:=G8 Da f;obtain ⟨n3,u,_,w3⟩:=G8 Da g;obtain ⟨n4,v,_,w4⟩:=G8 Da j;obtain ⟨n5,y,_,w5⟩:=G8 Da k;obtain ⟨n6,z,_,w6⟩:=G8 Da l;obtain ⟨n7,e7,_,w7⟩:=G8 Da o;obtain ⟨n8,e8,_,w8⟩:=G8 Da p;obtain ⟨so,m,cp,zs,rfl,hz,d⟩:=Ayv q;simp at r s t u v y z e7 e8;subst r s t u v y z e7 e8;refine ⟨⟨⟨n0,n1,n2,n3,n4,n5,n6,n7,n8⟩,so,m,cp,zs⟩,rfl,⟨hz,d,fun i=>?_⟩⟩;have b0:=Oi w0;have b1:=Oi w1;have b2:=Oi w2;have b3:=Oi w3;have b4:=Oi w4;have b5:=Oi w5;have b6:=Oi w6;have b7:=Oi w7;have b8:=Oi w8;unfold bz.get
  split<;>first | assumption | omega
end
section
variable {H:Type} {enc:TypeId×Value->H} {w:World} {held:Bool} {b0:Nat} {r:Reach} {v:Value} {d:DataW H} {p:List MemPlace}
def Ayx (f:Value.okWide Tryz.prog w r b0 40 v) (h:DataW.Trod enc Tryz.prog w 0 (fun _=>true) held 40 v d p):∃ a:cu,v=a.val/\a.ok w:=by
 obtain ⟨c,g⟩:=h
 obtain ⟨cs,rfl⟩:∃ cs,v=.agg cs:=by
  simp only [Value.okWide,Tryz.underlying40] at f
  cases v<;>simp_all
 obtain ⟨a,e,b⟩:=Ayw g;refine ⟨a,?_,b⟩;have i:cs=a.cells:=Array.toList_inj.1 e;rw [i]
end
end Go.Proofs.YtimlcnhcjndijaaGreatDoor
namespace Go.Proofs.YtimlcnhcjndijaaGreatDoor
open Go.RowKit Go.Maps Go.Lib
def Ai2 (s:dp):Int:=min (max s.array 0) 50
def Q2 (l:List dp):Int:=(l.map Ai2).foldl (·+·) 0
def Pj (l:List ed):Int:=(l.map fun e=>Q2 e.specs).foldl (·+·) 0
structure Ai3 (es:List ed):Prop where
 len:es.length<=60
 sum:Pj es<=16
def Aa6 (es:List ed) (w:World) (e:Ending) (w':World):Prop:=∃ b:Bool,e=.returned (.bool b)/\(b=true->Ai3 es)/\Below w.heap.size w w'
def Ai4 (l:List Int) (x:Int):(l++[x]).foldl (·+·) 0=l.foldl (·+·) 0+x:=by rw [Ms];rfl
def Ayy (l:List dp) (s:dp):Q2 (l++[s])=Q2 l+Ai2 s:=by unfold Q2;rw [Ds];exact Ai4 _ _
def Ayz (l:List ed) (e:ed):Pj (l++[e])=Pj l+Q2 e.specs:=by unfold Pj;rw [Ds];exact Ai4 _ _
structure vu (w:World) (es:List ed) (i:Nat) (n:Int) (wr:World):Prop where
 low:Below w.heap.size w wr
 sum:n=Pj (es.take i)
 bd:0<=n/\n<=16
structure vl (w:World) (es:List ed) (sp:List dp) (i k:Nat) (n:Int) (wr:World):Prop where
 low:Below w.heap.size w wr
 sum:n=Pj (es.take i)+Q2 (sp.take k)
 bd:0<=n/\n<=16+50*(k:Int)
def Ay0 {w:World} (so:Option Addr) (m c:Nat) (xs:List cu) (h:Ai1 w so m xs) :
  Calls Tryz.prog 19 #[.slice so m c] w (Aa6 (xs.map cu.pl) w):=by
 have hl:=h.len;obtain ⟨p,q⟩:=Ex (xs.map cu.pl);have t:p.length=m:=by rw [q,Ax,hl]
 rw [<- q];by_cases hm:60<m
 .have d1:decide ((60:Int)<(m:Int))=true:=Az (by omega);have hp:Aa6 p w (.returned (.bool false)) w:=⟨false,rfl,fun c=>(by cases c),Below.refl _ _⟩;replace ⟨h,hl,q,t,hp⟩:=H5 h hl q t hp;go_enter Tryz.func19,Tryz.ntmps19;go_wp2_with fail;go_ret;exact hp.out
 .have d1:decide ((60:Int)<(m:Int))=false:=Aw (by omega);have aG:vu w p 0 0 w:=⟨Below.refl _ _,by simp [Pj],by omega⟩;replace ⟨h,hl,q,t,aG⟩:=H5 h hl q t aG;go_enter Tryz.func19,Tryz.ntmps19;go_wp2_with fail;go_loopw [3,4,5,6] (fun nv iv _ _ wr=>∃ (i:Nat) (n:Int),nv=.int .i64 n/\iv=.int .i64 i/\i<=m/\Hid (vu w p i n wr)) (fun _ iv _ _ _=>m-(intOf iv).toNat)
  case atStart=>exact ⟨0,0,rfl,rfl,Av _,aG⟩
  case round=>
   rename World=>wo
   obtain ⟨i,n,rfl,rfl,hi,hS⟩:=hrel;by_cases hc:i<m
   .have aV:(i:Int)<m:=(by omega);have a1:(0:Int)<=(i:Int):=(by omega);obtain ⟨x,hx⟩:∃ x,xs[i]?=some x:=⟨_,Am (by have:=hl.out;omega)⟩;obtain ⟨b,aW,rfl,aH,aI,aJ⟩:=h.out.cell i x hx
    have z:p.take (i+1)=p.take i++[x.pl]:=by
     have:p[i]?=some x.pl:=by rw [q.out,Bx,hx];rfl
     exact J7 this
    obtain ⟨en,aS,em,ec,aK⟩:=x;obtain ⟨sl,ac⟩:=Ex (aK.map au.pl);have aB:∀ W:World,Below w.heap.size w W->W.cell? ⟨b,aW+i*10+9,none⟩=some (.slice aS em ec):=fun W hW=>(Ag hW aH).trans (aI 9 (by omega));have z:p.take (i+1)=p.take i++[⟨en,sl⟩]:=(by rw [z,ac];rfl);have aC:Kc w aS em aK:=aJ.cq;have s:=aC.len;have q9:=aB wo hS.out.low;replace ⟨hx,aH,aI,aJ,z,ac,aB,aC⟩:=H8 hx aH aI aJ z ac aB aC;replace s:=Hh s;by_cases h8:8<em
    .have d8:decide ((8:Int)<(em:Int))=true:=Az (by omega);go_wp2_with fail;go_ret;exact ⟨false,rfl,fun c=>(by cases c),hS.out.low⟩
    .have d8:decide ((8:Int)<(em:Int))=false:=Aw (by omega);have aL:vl w p sl i 0 n wo:=⟨hS.out.low,by rw [hS.out.sum];simp [Q2],by have:=hS.out.bd;omega⟩;replace aL:=Hh aL;go_wp2_with fail;clear q9;go_loopw [3,5,6] (fun nv kv _ wr=>∃ (k:Nat) (n2:Int),nv=.int .i64 n2/\kv=.int .i64 k/\k<=em/\Hid (vl w p sl i k n2 wr)) (fun _ kv _ _=>em-(intOf kv).toNat)
     case atStart=>exact ⟨0,n,rfl,rfl,Av _,aL⟩
     case round=>
      obtain ⟨k,n2,rfl,rfl,hk,hV⟩:=hrel;have q9:=aB.out _ hV.out.low;by_cases a2:k<em
      .have aX:(k:Int)<em:=(by omega);have a3:(0:Int)<=(k:Int):=(by omega);obtain ⟨y,hy⟩:∃ y,aK[k]?=some y:=⟨_,Am (by have:=s.out;omega)⟩;obtain ⟨u,a,rfl,ad,al,aT⟩:=aC.out.cell k y hy;have d:=fun j hj=>(Ag hV.out.low ad).trans (al j hj)
       have am:sl.take (k+1)=sl.take k++[y.pl]:=by
        have:sl[k]?=some y.pl:=by rw [ac.out,Bx,hy];rfl
        exact J7 this
       obtain ⟨⟨e,f,nodes,⟨da,db,dc,dd⟩,an,ao,array,ae,ap,after⟩,aD,sn,aE⟩:=y;have z0:wr.cell? ⟨u,a+k*13,none⟩=some (.string e):=d 0 (by omega);have z1:wr.cell? ⟨u,a+k*13+1,none⟩=some (.string f):=d 1 (by omega);have z2:wr.cell? ⟨u,a+k*13+2,none⟩=some (.int .i64 nodes):=d 2 (by omega);have z3:wr.cell? ⟨u,a+k*13+3,none⟩=some (.int .i64 da):=d 3 (by omega);have z4:wr.cell? ⟨u,a+k*13+4,none⟩=some (.int .i64 db):=d 4 (by omega);have z5:wr.cell? ⟨u,a+k*13+5,none⟩=some (.int .i64 dc):=d 5 (by omega);have z6:wr.cell? ⟨u,a+k*13+6,none⟩=some (.int .i64 dd):=d 6 (by omega);have z7:wr.cell? ⟨u,a+k*13+7,none⟩=some (.int .i64 an):=d 7 (by omega);have z8:wr.cell? ⟨u,a+k*13+8,none⟩=some (.int .i64 ao):=d 8 (by omega);have z9:wr.cell? ⟨u,a+k*13+9,none⟩=some (.int .i64 array):=d 9 (by omega);have aY:wr.cell? ⟨u,a+k*13+10,none⟩=some (.int .i64 ae):=d 10 (by omega);have aZ:wr.cell? ⟨u,a+k*13+11,none⟩=some (.bool ap):=d 11 (by omega);have a0:wr.cell? ⟨u,a+k*13+12,none⟩=some (.slice aD sn aE):=d 12 (by omega);replace ⟨al,d,ad,aT,am,hy⟩:=H6 al d ad aT am hy;go_upto_region 13 with fail;clear z0 z1 z2 z3 z4 z5 z6 z7 z8 z9 aY aZ a0;obtain ⟨nb,aM⟩:=Ex (wr.heap.size);obtain ⟨W1,aF⟩:=Ex (wr.alloc (.cells (⟨⟨e,f,nodes,⟨da,db,dc,dd⟩,an,ao,array,ae,ap,after⟩,aD,sn,aE⟩:au).cells 33 (0,0)));have aN:Below wr.heap.size wr W1:=(by rw [aF];exact Bn);have v:W1.heap[nb]?=some (.cells (⟨⟨e,f,nodes,⟨da,db,dc,dd⟩,an,ao,array,ae,ap,after⟩,aD,sn,aE⟩:au).cells 33 (0,0)):=(by rw [aF,aM];exact Af _ _);rw [<- aF,<- aM];clear aF aM q9;have l:=hV.out.low.trans (aN.mono hV.out.low.size);have p0:=Bk v 0 (.string e) rfl;have p1:=Bk v 1 (.string f) rfl;have p9:=Bk v 9 (.int .i64 array) rfl;have a4:=Bk v 12 (.slice aD sn aE) rfl;have o:Aa6 p w (.returned (.bool false)) W1:=⟨false,rfl,fun c=>(by cases c),l⟩;replace ⟨aN,v,l,o⟩:=H4 aN v l o;by_cases g1:20<sn
       .have e1:decide ((20:Int)<(sn:Int))=true:=Az (by omega);go_wp2_with fail;go_ret;exact o.out
       have e1:decide ((20:Int)<(sn:Int))=false:=Aw (by omega);by_cases g2:100<e.size
       .have e2:decide ((100:Int)<(e.size:Int))=true:=Az (by omega);go_wp2_with fail;go_ret;exact o.out
       have e2:decide ((100:Int)<(e.size:Int))=false:=Aw (by omega);by_cases g3:100<f.size
       .have e3:decide ((100:Int)<(f.size:Int))=true:=Az (by omega);go_wp2_with fail;go_ret;exact o.out
       have e3:decide ((100:Int)<(f.size:Int))=false:=Aw (by omega);have aU:=hV.out.bd;have a5:IntKind.i64.wrap (n2+min (max array 0) 50)=n2+min (max array 0) 50:=F5 (by omega) (by omega)
       have aO:vl w p sl i (k+1) (n2+min (max array 0) 50) W1:=⟨l.out,by
        rw [am.out,Ayy,hV.out.sum];show _+min (max array 0) 50=_+(_+min (max array 0) 50)
        omega,by omega⟩
       replace ⟨aO,aU⟩:=H2 aO aU;go_wp2_with fail;go_roundw
       case rel=>exact ⟨k+1,_,rfl,by go_num,by omega,aO⟩
       case measure=>simp [intOf];omega
      .have aX:¬ (k:Int)<em:=(by omega);have a6:k=em:=(by omega);have r:sl.take k=sl:=Dn (by rw [ac.out,Ax,s.out];omega);have av:n2=Pj (p.take (i+1)):=(by rw [z.out,Ayz,hV.out.sum,r]);have aA:=hV.out.bd;replace ⟨r,av,aA⟩:=H3 r av aA;by_cases g:16<n2
       .have e1:=Az g;go_wp2_with fail;go_ret;exact ⟨false,rfl,fun c=>(by cases c),hV.out.low⟩
       .have e1:=Aw g;have aP:vu w p (i+1) n2 wr:=⟨hV.out.low,av.out,by have:=aA.out;omega⟩;replace aP:=Hh aP;go_wp2_with fail;go_roundw
        case rel=>exact ⟨i+1,_,rfl,by go_num,by omega,aP⟩
        case measure=>simp [intOf];omega
   .have aV:¬ (i:Int)<m:=(by omega);have aQ:Ai3 p:=(by have h1:=hS.out.sum;have h2:=hS.out.bd;rw [Dn (by rw [t.out];omega)] at h1;exact ⟨by rw [t.out];omega,by omega⟩);have aR:=hS.out.low;replace ⟨aQ,aR⟩:=H2 aQ aR;go_wp2_with fail;go_ret;exact ⟨true,rfl,fun _=>aQ.out,aR.out⟩
def Ai5 {w:World} {b:Nat} {c:Array Value} {T:TypeId} {fr:Nat×Nat} (d:w.heap[b]?=some (.cells c T fr)) {o:Nat} {v:Value} (a:c[o]?=some v):w.setCell ⟨b,o,none⟩ v=w:=by
 have e:c.setIfInBounds o v=c:=by
  apply Array.ext_getElem?;intro j;rw [Mr];split
  .rename_i h;subst h;split
   .exact a.symm
   .rename_i f;rw [Array.getElem?_eq_none (by omega)] at a;cases a
  .rfl
 unfold World.setCell
 suffices h:(w.heap.modify b fun
   | .cells c elem frozen=>.cells (if (none:Option Nat).isSome then c else c.setIfInBounds o v) elem frozen
   | o=>o)=w.heap by
  show ({ w with heap:=_ }:World)=w;exact Ca (fun h=>({ w with heap:=h }:World)) h
 apply Array.ext_getElem?;intro j;rw [Sv];split
 .rename_i h;subst h;rw [d];simp [e]
 .rfl
def Aa7 {w:World} {B s n:Nat} {T:TypeId} {v:Value} {xs:List Value} (h:w.ownsRow B T s v n xs):∃ so c,v=.slice so n c:=by
 rcases h.2 with ⟨e,h0⟩ | ⟨g,cap,a,e,_⟩
 .exact ⟨none,0,by rw [h0,<- e]⟩
 .exact ⟨_,_,e⟩
def ti (w:World) (tb:Nat):Prop:=∃ m p a ac b bc c cc,w.heap[tb]?=some (.cells #[.int .i64 0,.int .i64 (-1),m,.slice a 0 ac,.slice b 0 bc,p,.slice c 0 cc] 115 (0,0))
def Xn {w:World} {b B:Nat} {l o:List UInt8} {e e' n:Int} (h:ib w b B l e) (f:N3 l e=(n,o,e')) (g i:Int) (h1:g<=n) (p:n<=i):Calls Tryz.prog 103 #[.agg #[.pointer (some ⟨b,0,none⟩)],.int .i64 g,.int .i64 i] w fun q w'=>q=.returned (.int .i64 n)/\ib w' b B o e'/\Ct b w w':=by
 obtain ⟨r,a⟩:=Ex (w.alloc (.cells #[.pointer (some ⟨b,0,none⟩)] 143));have c:Below w.heap.size w r:=by rw [a];exact Bn
 have j:r.heap[w.heap.size]?=some (.cells #[.pointer (some ⟨b,0,none⟩)] 143 (0,0)):=by rw [a];exact Af _ _
 have s:=Bk j 0 (.pointer (some ⟨b,0,none⟩)) rfl;have d:=Amf (h.low c);rw [f] at d;have t:decide (n<g)=false:=Aw (by omega);have u:decide (i<n)=false:=Aw (by omega);replace ⟨h,f,h1,p,c,j,d⟩:=H7 h f h1 p c j d;go_enter Tryz.func103,Tryz.ntmps103;go_upto_region 1 with fail;rw [<- a];clear a;go_wp2_with fail;refine d.out.mono ?_;rintro q w1 ⟨rfl,k,m⟩;replace ⟨k,m⟩:=H2 k m;clear s;go_wp2;go_ret;exact ⟨rfl,k.out,(Ct.af c.out).trans m.out⟩
def xr:N3 [0,1,0,0] 0=(0,[1,0,0],0):=by decide
def yk:N3 [1,0,0] 0=(-1,[0,0],0):=by decide
def xz:N3 [0,0] 0=(0,[0],0):=by decide
def yh:N3 [0] 0=(0,[],0):=by decide
def Ay6 {w:World} {g B tb:Nat} (h:ib w g B [0,1,0,0] 0) (hE:ti w tb) (i:tb≠g):Calls Tryz.prog 63 #[.agg #[.pointer (some ⟨g,0,none⟩)],.pointer (some ⟨tb,0,none⟩)] w fun en w'=>en=.returned (.tuple #[])/\ib w' g B [] 0/\Ct g w w':=by
 obtain ⟨m,p,a,ac,b,bc,c,cc,hT⟩:=hE;obtain ⟨W0,n⟩:=Ex (w.alloc (.cells #[.pointer (some ⟨g,0,none⟩)] 143));have b0:Below w.heap.size w W0:=by rw [n];exact Bn
 have q:W0.heap[w.heap.size]?=some (.cells #[.pointer (some ⟨g,0,none⟩)] 143 (0,0)):=by rw [n];exact Af _ _
 have hr:=h.lt;have d:w.heap.size≠g:=by omega
 have t:=Ae b0 hT (Ab hT);have x0:=Bk q 0 (.pointer (some ⟨g,0,none⟩)) rfl;have k0:=Xn (h.low b0) xr 0 1099511627776 (by decide) (by decide);replace ⟨h,hT,b0,q,hr,d,t,k0⟩:=H8 h hT b0 q hr d t k0;replace i:=Hh i;go_enter Tryz.func63,Tryz.ntmps63;go_upto_region 1 with fail;rw [<- n];clear n;go_wp2_with fail;refine k0.out.mono ?_;rintro en w1 ⟨rfl,u,j⟩;have e:=j.aq t.out i.out;have r:=j.aq q.out d.out;have k1:=Xn u yk (-1) 1099511627775 (by decide) (by decide);have t0:=Bk e 0 (.int .i64 0) rfl;have f1:=Ah e;have s1:=Ai5 e (o:=0) (v:=.int .i64 0) rfl;have x1:=Bk r 0 (.pointer (some ⟨g,0,none⟩)) rfl;clear x0;replace ⟨u,j,e,r,k1⟩:=H5 u j e r k1;go_upto_region 2 with fail;clear s1;go_wp2_with fail;refine k1.out.mono ?_;rintro en w2 ⟨rfl,x,k⟩;have f:=k.aq e.out i.out;have s:=k.aq r.out d.out;have k2:=Xn x xz 0 16 (by decide) (by decide);have t1:=Bk f 1 (.int .i64 (-1)) rfl;have f2:=Ah f;have s2:=Ai5 f (o:=1) (v:=.int .i64 (-1)) rfl;have x2:=Bk s 0 (.pointer (some ⟨g,0,none⟩)) rfl;clear x1 t0 f1;replace ⟨x,k,f,s,k2⟩:=H5 x k f s k2;go_upto_region 3 with fail;clear s2;go_wp2_with fail;refine k2.out.mono ?_;rintro en w3 ⟨rfl,y,l⟩;have z:=l.aq f.out i.out;have ad:=l.aq s.out d.out;have k3:=Xn y yh 0 100 (by decide) (by decide);have t3:=Bk z 3 (.slice a 0 ac) rfl;have x3:=Bk ad 0 (.pointer (some ⟨g,0,none⟩)) rfl;clear x2 t1 f2;replace ⟨y,l,z,ad,k3⟩:=H5 y l z ad k3;go_wp2_with fail;refine Nr 1 ?_;rw [Jc];go_wp2_with fail;refine Nr 1 ?_;rw [Jc];go_wp2_with fail;refine k3.out.mono ?_;rintro en w4 ⟨rfl,al,am⟩;clear x3 t3;replace ⟨al,am⟩:=H2 al am;go_wp2_with fail;refine Nr 1 ?_;rw [Jc];go_wp2_with fail;go_end0;exact ⟨rfl,al.out,(Ct.af b0.out).trans (((j.out.trans k.out).trans l.out).trans am.out)⟩
def Ay7 (w:World):Calls Tryz.prog 34 #[.pointer none,.slice none 0 0] w fun a w'=>a=.returned (.tuple #[.pointer none,.int .i64 1])/\w'=w:=by
 have k:=Ag5 w;replace k:=Hh k;go_enter Tryz.func34,Tryz.ntmps34;go_wp2_with fail;refine k.out.mono ?_;rintro a w1 ⟨rfl,rfl⟩;go_wp2;go_ret2;exact ⟨rfl,rfl⟩
def Ay8 {w:World} {fb fm fl bb:Nat} (hf:ir w fb fm fl []) (u:Ir []) (hb:Iv w (some ⟨bb,0,none⟩) 4 [0,1,0,0]):Calls Tryz.prog 34 #[.pointer (some ⟨fb,0,none⟩),.slice (some ⟨bb,0,none⟩) 4 4] w fun en w'=>∃ tb,en=.returned (.tuple #[.pointer (some ⟨tb,0,none⟩),.int .i64 0])/\ti w' tb/\Below w.heap.size w w':=by
 have k0:=V5 hf u;replace ⟨hf,u,hb,k0⟩:=H4 hf u hb k0;go_enter Tryz.func34,Tryz.ntmps34;go_wp2_with fail;refine k0.out.mono ?_;rintro en w1 ⟨T,rfl,hA,b1,-,-,-,-,v,i⟩;obtain ⟨tb,ht⟩:=Ex (T.tb)
 have hE:∃ m p a ac b bc c cc,w1.heap[tb]?=some (.cells #[.int .i64 0,.int .i64 (-1),m,.slice a 0 ac,.slice b 0 bc,p,.slice c 0 cc] 115 (0,0)):=by
  have e1:T.ah=0:=Ca di.ah i;have e2:T.tick=-1:=Ca di.tick i;have e3:T.nodes.length=0:=by rw [hA.same,v];rfl
  have e4:T.js.length=0:=by have:=Ca (fun t:di=>t.ab.length) i;simpa [Tv.pl] using this
  have e5:T.vs.length=0:=by rw [v];rfl
  obtain ⟨a,ac,h1⟩:=Aa7 hA.nodes;obtain ⟨b,bc,h2⟩:=Aa7 hA.ab;obtain ⟨c,cc,h3⟩:=Aa7 hA.aw;have hh:=hA.head;rw [h1,h2,h3,e1,e2,e3,e4,e5,<- ht] at hh;exact ⟨_,_,_,_,_,_,_,_,hh⟩
 obtain ⟨m,p,a,ac,b,bc,c,cc,hT⟩:=hE;rw [<- ht];have j:=Ab hT;have k1:=Al8 (hb.out.low b1) (c:=4) Ln (fun c=>by cases c);clear ht hA v i;replace ⟨b1,hT,j,k1⟩:=H4 b1 hT j k1;go_wp2_with fail;refine k1.out.mono ?_;rintro en w2 ⟨rfl,d,b2⟩;obtain ⟨rb,k⟩:=Ex (w1.heap.size);rw [<- k] at d ⊢;have e:tb≠rb:=by have:=j.out;omega
 have l:=Ae b2 hT.out j.out;have x:=d.lt;obtain ⟨W3,n⟩:=Ex (w2.alloc (.cells #[.pointer (some ⟨rb,0,none⟩)] 143));have b3:Below w2.heap.size w2 W3:=by rw [n];exact Bn
 have o:W3.heap[w2.heap.size]?=some (.cells #[.pointer (some ⟨rb,0,none⟩)] 143 (0,0)):=by rw [n];exact Af _ _
 have q:=Ae b3 l (Ab l);have f:w2.heap.size≠rb:=by omega
 have k3:=Ay6 (d.low b3) ⟨_,_,_,_,_,_,_,_,q⟩ e;have x3:=Bk o 0 (.pointer (some ⟨rb,0,none⟩)) rfl;replace ⟨d,b2,k,e,l,x,b3,o⟩:=H8 d b2 k e l x b3 o;replace ⟨q,f,k3⟩:=H3 q f k3;go_upto_region 5 with fail;rw [<- n];clear n;go_wp2_with fail;refine k3.out.mono ?_;rintro en w4 ⟨rfl,y,g⟩;have z:=g.aq o.out f.out;have ad:=g.aq q.out e.out;have x4:=Bk z 0 (.pointer (some ⟨rb,0,none⟩)) rfl;have k4:=Amg y;rw [show Vl [] 0=0 from rfl] at k4;clear x3;replace ⟨y,g,z,ad,k4⟩:=H5 y g z ad k4;go_wp2_with fail;refine k4.out.mono ?_;rintro en w5 ⟨rfl,r⟩;have s:=r.aq ad.out e.out;have t6:=Bk s 6 (.slice c 0 cc) rfl;clear x4;have h:Below w.heap.size w w5:=by have h3:=b2.out.trans (b3.out.mono b2.out.size);have h5:Below w1.heap.size W3 w5:=(g.out.trans r).below (by have:=k.out;omega) (Br x.out b3.out.size);exact b1.out.trans ((h3.trans h5).mono b1.out.size)
 replace ⟨r,s,h⟩:=H3 r s h;go_wp2_with fail;refine Nr 1 ?_;rw [Jc];go_wp2_with fail;go_ret2;exact ⟨tb,rfl,⟨_,_,_,_,_,_,_,_,s.out⟩,h.out⟩
end Go.Proofs.YtimlcnhcjndijaaGreatDoor
