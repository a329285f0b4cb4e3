/- Parts of a proof. No condition. -/
import Derived.Test.YtimlcnhcjndijaaGreatDoorH01
import Derived.Test.YtimlcnhcjndijaaGreatDoorH02
set_option linter.all false
set_option maxRecDepth 100000
set_option maxHeartbeats 3200000
namespace Go.Proofs.YtimlcnhcjndijaaGreatDoor
open Option renaming some->O,none->I
open IntKind renaming i64->G
open Value renaming int->Z,bool->Y,string->E,tuple->D,slice->V
open Ending renaming returned->Q
open Obj renaming cells->J
open Go renaming World->WD
open Go.RowKit renaming Below->BW
open Go.Proofs.Tryz
section
open Go.RowKit Go.Maps Go.Lib
variable{l:List UInt8}{α:Type}{x:UInt8}{w w':WD}
def au (l:List UInt8):ByteArray:=⟨l.toArray⟩
def Fy (l:List UInt8):(au l).data.toList=l:=by simp[au]
def Z4 (s:ByteArray):au s.data.toList=s:=rfl
def Adw {a b:List UInt8} (h:au a=au b):a=b:=by rw[<-Fy a,h,Fy]
def Gg (l:List UInt8):(au l).size=l.length:=rfl
def O1 {a b:ByteArray} (h:a.data.toList=b.data.toList):a=b:=by rw[<-Z4 a,h,Z4]
def M8 (s:ByteArray):s.data.toList.length=s.size:=rfl
def A9 (x:UInt8):List UInt8->List (List UInt8)
 | []=>[[]]
 | b :: l=>if b=x then[]::A9 x l else(b :: (A9 x l).headD [])::(A9 x l).tail
def Amg (x:UInt8) (l:List UInt8):A9 x l≠[]:=by
 cases l with
 | nil=>simp[A9]
 | cons b l=>unfold A9;split<;>simp
def Rx   (h:x∉l):A9 x l=[l]:=by
 induction l with
 | nil=>rfl
 | cons b l ih=>
  have h1:¬b=x:=λe=>h (by rw[e];exact Ef ..);have a:=ih (λe=>h (Dj _ e));unfold A9;rw[Ab h1,a];rfl
def Ry  {a r:List UInt8} (h:x∉a):A9 x (a++x :: r)=a :: A9 x r:=by
 induction a with
 | nil=>show A9 x (x :: r)=_;rw[A9,Ad rfl]
 | cons b a ih=>
  have h1:¬b=x:=λe=>h (by rw[e];exact Ef ..);have c:=ih (λe=>h (Dj _ e));show A9 x (b :: (a++x :: r))=_;rw[A9,Ab h1,c];rfl
def Z5 (x:UInt8) (l:List UInt8):x∉l\/∃a r,l=a++x :: r/\x∉a:=by
 induction l with
 | nil=>exact .inl as9
 | cons b l ih=>
  by_cases e:b=x
  .exact .inr ⟨[],l,by rw[e];rfl,as9⟩
  .rcases ih with h|⟨a,r,h1,d⟩
   .exact .inl (by simp[h];exact λc=>e c.symm)
   .exact .inr ⟨b :: a,r,by rw[h1];rfl,by simp[d];exact λc=>e c.symm⟩
def Z6   (h:x∉l):Lib.index l [x]=-1:=by
 induction l with
 | nil=>rfl
 | cons b l ih=>
  have h1:¬x=b:=λe=>h (by rw[e];exact Ef ..);have a:=ih (λe=>h (Dj _ e));unfold Lib.index;have e:[x].isPrefixOf (b :: l)=false:=by simp[List.isPrefixOf,h1]
  rw[e,a];rfl
def Adx  {a r:List UInt8} (h:x∉a):Lib.index (a++x :: r) [x]=a.length:=by
 induction a with
 | nil=>
  show Lib.index (x :: r) [x]=_;unfold Lib.index;have e:[x].isPrefixOf (x :: r)=true:=by simp[List.isPrefixOf]
  rw[e];rfl
 | cons b a ih=>
  have h1:¬x=b:=λe=>h (by rw[e];exact Ef ..);have d:=ih (λe=>h (Dj _ e));show Lib.index (b :: (a++x :: r)) [x]=_;unfold Lib.index;have e:[x].isPrefixOf (b :: (a++x :: r))=false:=by simp[List.isPrefixOf,h1]
  rw[e,d];have c:((a.length:Int) == -1)=false:=by simp only[Bh];omega
  simp[c]
def Amh   (h:x∉l):Lib.cut l [x]=(l,[],false):=by
 unfold Lib.cut;rw[Z6 h];rfl
def Ami  {a r:List UInt8} (h:x∉a):Lib.cut (a++x :: r) [x]=(a,r,true):=by
 unfold Lib.cut;rw[Adx h,Ad ao9];simp
def Amj (x:UInt8):∀(n:Nat) (s:ByteArray),s.size<=n->Lib.splitB (au [x]) 0 (Lib.countB s (au [x])) s=(A9 x s.data.toList).map au/\Lib.countB s (au [x])+1=(A9 x s.data.toList).length:=by
 intro n
 induction n with
 | zero=>
  intro s k;have h0:s.data.toList=[]:=Fv.1 (by rw[M8];omega);have b:Lib.indexB s (au [x])=-1:=by show Lib.index s.data.toList [x]=-1;exact Z6 (by rw[h0];simp)
  rw[Lib.countB_miss s _ b,Lib.splitB_zero,h0];exact⟨by rw[<-Z4 s,h0];rfl,rfl⟩
 | succ n ih=>
  intro s k;rcases Z5 x s.data.toList with h|⟨a,r,h1,c⟩
  .have b:Lib.indexB s (au [x])=-1:=(by show Lib.index s.data.toList [x]=-1;exact Z6 h);rw[Lib.countB_miss s _ b,Lib.splitB_zero,Rx h];exact⟨rfl,rfl⟩
  .have b:Lib.indexB s (au [x])=(a.length:Nat):=by show Lib.index s.data.toList [x]=_;rw[h1];exact Adx c
   have e:s.extract (a.length+(au [x]).size) s.size=au r:=O1 (by
    rw[Lib.extract_to_end,Fy,h1,Gg];show List.drop (a.length+1) (a++x :: r)=r
    rw[List.drop_append];simp)
   have i:s.extract 0 (a.length+0)=au a:=O1 (by rw[Lib.extract_from_zero,Fy,h1];simp)
   have j:(au r).size<=n:=by
    have:s.data.toList.length=a.length+(r.length+1):=by rw[h1];simp
    rw[M8]at this;rw[Gg];omega
   obtain⟨f,g⟩:=ih (au r) j;rw[Fy]at f g;have d:=Lib.countB_hit s (au [x]) a.length Ln b;rw[e]at d;rw[d,Nat.add_comm 1,Lib.splitB_hit _ _ _ _ _ b,e,i,f,h1,Ry c];exact⟨rfl,by simp[<-g]⟩
def Mx (w:WD):Prop:=∃m,w.cell? ⟨0,0,I⟩=O (Z G m)
def Mx.pos  (h:Mx w):0<w.heap.size:=by
 obtain⟨m,h⟩:=h;simp only[World.cell?]at h
 cases hx:w.heap[0]? with
 | none=>simp[hx]at h
 | some o=>exact(Th.1 hx).1
def Mx.below  {B:Nat} (h:Mx w) (b:BW B w w') (a:0<B):Mx w':=by
 obtain⟨m,h⟩:=h;exact⟨m,(Af b a).trans h⟩
def Mx.low  (h:Mx w) (a:BW w.heap.size w w'):Mx w':=h.below a h.pos
def Ady (s:ByteArray) (x:UInt8) (w:WD) (h:Mx w) (g:s.size<4294967281) :
  Calls prog 76 #[E s,E (au [x])] w λe w'=>(∃a r b,e=Q (D #[E (au a),E (au r),Y b])/\((b=false/\a=s.data.toList/\r=[]/\x∉a)\/(b=true/\s.data.toList=a++x :: r/\x∉a)))/\∃n,w'=w.drewN n:=by
 obtain⟨m,f⟩:=h;refine(Tryz.strings_Cut s (au [x]) m w g f).mono λe w' ⟨he,hn⟩=>?_;refine⟨?_,hn⟩;rw[Fy]at he;rcases Z5 x s.data.toList with d|⟨a,r,h1,c⟩
 .rw [Amh d]at he;exact⟨s.data.toList,[],false,he,.inl ⟨rfl,rfl,rfl,d⟩⟩
 .rw [h1,Ami c]at he;exact⟨a,r,true,he,.inr ⟨rfl,h1,c⟩⟩
def Amk (s:ByteArray) (x:UInt8) (w:WD) (h:Mx w) (b:s.size<4294967281) :
  Calls prog 77 #[E s,E (au [x])] w λe w'=>e=Q (V (O ⟨w.heap.size,0,I⟩) (A9 x s.data.toList).length (A9 x s.data.toList).length)/\w'=w.alloc (J (((A9 x s.data.toList).map au).map Value.string).toArray 9):=by
 obtain⟨m,a⟩:=h;refine(Tryz.strings_Split s (au [x]) m w b a Ln).mono λe w' ⟨he,hn⟩=>?_;obtain⟨c,d⟩:=Amj x s.size s Ln;rw[d]at he;rw[c]at hn;exact⟨he,hn⟩
def Ka (ps:List (List UInt8)) (j:Nat):Int:=Dp (au (ps.getD j [])) 10
def Z7 (ps:List (List UInt8)):V4:=⟨Ka ps 0,Ka ps 1,Ka ps 2,Ka ps 3⟩
def Kc (s:ByteArray):V4×Int:=if (A9 44 s.data.toList).length=4 then(Z7 (A9 44 s.data.toList)).told 11 else(V4.zero,11)
def Adz {s:ByteArray} (h:(A9 44 s.data.toList).length≠4):Kc s=(V4.zero,11):=Ab h
def Ad0  (a:List α) (x:α) (b:List α) (d:α) (k:Nat) (c:a.length=k):(a++x :: b).getD k d=x:=by
 subst c;simp[List.getD]
def Ad1  (a b:List α) (d:α) {j:Nat} (c:j<a.length):(a++b).getD j d=a.getD j d:=by
 simp[List.getD,Es c]
structure xf (w:WD) (s0:ByteArray) (k:Nat) (done:List (List UInt8)) (rest:List UInt8) (f:Nat->Int) (wr:WD):Prop where
 low:BW w.heap.size w wr
 mx:Mx wr
 res:wr.heap[w.heap.size]?=O (J V4.zero.cells 30 (0,0))
 arr:wr.heap[w.heap.size+1]?=O (J #[Z G (f 0),Z G (f 1),Z G (f 2),Z G (f 3)] 30 (0,0))
 val:∀j,j<k->f j=Ka done j
 len:done.length=k
 cut:if k<4 then A9 44 s0.data.toList=done++A9 44 rest else A9 44 s0.data.toList=done
 wj:rest.length<=s0.size
def Ad2 (x:UInt8) (l:List UInt8):1<=(A9 x l).length:=by
 cases h:A9 x l with
 | nil=>exact absurd h (Amg _ _)
 | cons p ps=>simp
def A6 (B:Nat) (w:WD) (n:Nat):BW B w (w.drewN n):=⟨rfl,rfl,rfl,Nat.le_refl _,λ_ _=>rfl⟩
def Ad3  {n:Nat} (h:BW (w.drewN n).heap.size (w.drewN n) w'):BW w.heap.size w w':=(A6 _ _ _).trans h
def Aml (z:ByteArray) (w:WD) (hm:Mx w) (hs:z.size<=4294967280):Calls prog 79 #[E z] w λe w'=>e=Q (D #[(Kc z).1.val,Z G (Kc z).2])/\BW w.heap.size w w':=by
 have ap:=Hh hm.pos
 have h0:xf w z 0 [] z.data.toList (λ_=>0) ((w.alloc (J V4.zero.cells 30 (0,0))).alloc (J V4.zero.cells 30 (0,0))):=
  ⟨Bn.alloc as9 _,hm.low (Bn.alloc as9 _),Ak _ (Ah _ _),A2 _ _ as9,λj hj=>absurd hj (P3 _),rfl,as9,Nat.le_refl _⟩
 replace⟨h0,hm⟩:=H2 h0 hm;go_enter func79,ntmps79;go_wp2;go_loopw [0,5,6,7,8,9] (λsv _ _ _ _ i wr=>∃(k:Nat) (l:List (List UInt8)) (rest:List UInt8) (f:Nat->Int),k<=4/\i=Z G k/\sv=E (au rest)/\Hid (xf w z k l rest f wr)) (λ_ _ _ _ _ i _=>4-(intOf i).toNat)
 case atStart=>exact⟨0,[],z.data.toList,λ_=>0,ao9,rfl,rfl,h0.out⟩
 case round=>
  obtain⟨k,l,rest,f,hk,rfl,rfl,n⟩:=hrel;by_cases h4:k<4
  .have hi:(k:Int)<4:=ao9;have aA:=Ady (au rest) 44 wr n.mx (by rw[Gg];have:=n.wj;omega);rw[Fy]at aA;have q:=n.cut;rw[Ad h4]at q;replace⟨aA,q⟩:=H2 aA q;go_wp2_with fail;refine aA.mono ?_;rintro e w1 ⟨⟨a,r,b,rfl,aC⟩,nd,rfl⟩
   have d:a.length<=z.size/\r.length<=z.size:=by
    have:=n.wj;rcases aC with⟨_,y,e2,_⟩|⟨_,y,_⟩
    .rw [y,e2];exact⟨this,as9⟩
    .have e:=Ca List.length y;simp at e;omega
   by_cases h3:k<3
   .have d3:decide ((k:Int)<3)=true:=Bs ao9;have aH:=Bs h3;rcases aC with⟨rfl,y,e2,e3⟩|⟨rfl,y,e3⟩
    .have s:(A9 44 z.data.toList).length≠4:=(by rw[q.out,<-y,Rx e3];simp[n.len];omega);replace⟨s,y,e2,e3,d⟩:=H5 s y e2 e3 d;have hz:=Adz s.out;have cx:=Aa n.res;have fx:=Ag n.res;have t:=n.low;replace⟨hz,t⟩:=H2 hz t;go_wp2;refine An (v:=D #[V4.zero.val,Z G 11]) (by simp[results,results79,go_sem,cx,V4.zero]) rfl ⟨by rw[hz.out],?_⟩;exact(((((t.trans (A6 _ _ _)).setCell Ln _).setCell Ln _).setCell Ln _).setCell Ln _)
    .have hcut:if k+1<4 then A9 44 z.data.toList=(l++[a])++A9 44 r else A9 44 z.data.toList=l++[a]:=(by rw[Ad ao9,q.out,y,Ry e3];simp);have al:=d.2;have ac:=d.1;replace⟨hcut,y,e3,d,al⟩:=H5 hcut y e3 d al;clear d;have d:=ac;replace d:=Hh d;clear ac;have am:=Adv (au a) (wr.drewN nd) (by rw[Gg];have:=d.out;have:maxLen=9223372036854775807:=rfl;omega);replace am:=Hh am;go_wp2_with fail;refine am.mono ?_;rintro e w2 ⟨rfl,p⟩;have o:=Ad3 p;have g:=Ae o n.arr (Ac n.arr);have g2:=Ae o n.res (Ac n.res);have cc:=Aa g;have ff:=Ag g;have c:=n.low.trans (o.mono n.low.size);have x:=n.mx.low o
     obtain⟨f',aD,aE⟩:∃f':Nat->Int,Hid (∀j,j<k+1->f' j=Ka (l++[a]) j)/\Hid (∀j,f' j=if j=k then Dp (au a) 10 else f j):=by
      refine⟨λj=>if j=k then Dp (au a) 10 else f j,λj hj=>?_,λ_=>rfl⟩;show(if j=k then Dp (au a) 10 else f j)=Ka (l++[a]) j;split
      .next h=>rw[h];unfold Ka;rw[Ad0 _ _ _ _ _ n.len]
      .rw [n.val j ao9];unfold Ka;rw[Ad1 _ _ _ (by rw[n.len];omega)]
     replace⟨p,o,g,g2,c,x⟩:=H6 p o g g2 c x;obtain⟨W3,af⟩:=Ex (w2.setCell ⟨w.heap.size+1,k,I⟩ (Z G (Dp (au a) 10)))
     have ad:xf w z (k+1) (l++[a]) r f' W3:=by
      rw[af];refine⟨c.setCell as9 _,?_,Dg ao9 _ g2.out,?_,aD.out,by simp[n.len],hcut.out,al.out⟩
      .obtain ⟨m,hm⟩:=x.out;exact⟨m,(Bl (a:=⟨0,0,I⟩) (w:=w2) (Ci _ _ _ _ (by have:=ap.out;show(0:Nat)≠w.heap.size+1;omega))).trans hm⟩
      .rw [Am g.out]
       rcases tw h4 with rfl|rfl|rfl|rfl<;>simp[aE.out]
     replace ad:=Hh ad;have an:=Hh af;clear af;rcases(show k=0\/k=1\/k=2 by omega)with rfl|rfl|rfl
     all_goals
      go_wp2
      try rw[<-an.out]
      go_roundw
      case rel=>exact⟨_,_,_,f',ao9,by go_num,rfl,ad.out⟩
      case measure=>simp[intOf]
   .have ao:k=3:=ao9;have d3:decide ((k:Int)<3)=false:=Bz ao9;have aH:=Bz h3;rcases aC with⟨rfl,y,e2,e3⟩|⟨rfl,y,e3⟩
    .have hcut:if k+1<4 then A9 44 z.data.toList=(l++[a])++A9 44 r else A9 44 z.data.toList=l++[a]:=(by rw[Ab ao9,q.out,<-y,Rx e3]);have al:=d.2;have ac:=d.1;replace⟨hcut,y,e2,e3,d,al,ao⟩:=H7 hcut y e2 e3 d al ao;clear d;have d:=ac;replace d:=Hh d;clear ac;have am:=Adv (au a) (wr.drewN nd) (by rw[Gg];have:=d.out;have:maxLen=9223372036854775807:=rfl;omega);replace am:=Hh am;go_wp2_with fail;refine am.mono ?_;rintro e w2 ⟨rfl,p⟩;have o:=Ad3 p;have g:=Ae o n.arr (Ac n.arr);have g2:=Ae o n.res (Ac n.res);have cc:=Aa g;have ff:=Ag g;have c:=n.low.trans (o.mono n.low.size);have x:=n.mx.low o
     obtain⟨f',aD,aE⟩:∃f':Nat->Int,Hid (∀j,j<k+1->f' j=Ka (l++[a]) j)/\Hid (∀j,f' j=if j=k then Dp (au a) 10 else f j):=by
      refine⟨λj=>if j=k then Dp (au a) 10 else f j,λj hj=>?_,λ_=>rfl⟩;show(if j=k then Dp (au a) 10 else f j)=Ka (l++[a]) j;split
      .next h=>rw[h];unfold Ka;rw[Ad0 _ _ _ _ _ n.len]
      .rw [n.val j ao9];unfold Ka;rw[Ad1 _ _ _ (by rw[n.len];omega)]
     replace⟨p,o,g,g2,c,x⟩:=H6 p o g g2 c x;obtain⟨W3,af⟩:=Ex (w2.setCell ⟨w.heap.size+1,k,I⟩ (Z G (Dp (au a) 10)))
     have ad:xf w z (k+1) (l++[a]) r f' W3:=by
      rw[af];refine⟨c.setCell as9 _,?_,Dg ao9 _ g2.out,?_,aD.out,by simp[n.len],hcut.out,al.out⟩
      .obtain ⟨m,hm⟩:=x.out;exact⟨m,(Bl (a:=⟨0,0,I⟩) (w:=w2) (Ci _ _ _ _ (by have:=ap.out;show(0:Nat)≠w.heap.size+1;omega))).trans hm⟩
      .rw [Am g.out]
       rcases tw h4 with rfl|rfl|rfl|rfl<;>simp[aE.out]
     replace ad:=Hh ad;have an:=Hh af;clear af;have aG:=ao.out;subst aG
     all_goals
      go_wp2
      try rw[<-an.out]
      go_roundw
      case rel=>exact⟨_,_,_,f',ao9,by go_num,rfl,ad.out⟩
      case measure=>simp[intOf]
    .have s:(A9 44 z.data.toList).length≠4:=(by rw[q.out,y,Ry e3];have:=Ad2 44 r;simp[n.len];omega);replace⟨s,y,e3,d,ao⟩:=H5 s y e3 d ao;have hz:=Adz s.out;have cx:=Aa n.res;have fx:=Ag n.res;have t:=n.low;replace⟨hz,t⟩:=H2 hz t;go_wp2;refine An (v:=D #[V4.zero.val,Z G 11]) (by simp[results,results79,go_sem,cx,V4.zero]) rfl ⟨by rw[hz.out],?_⟩;exact(((((t.trans (A6 _ _ _)).setCell Ln _).setCell Ln _).setCell Ln _).setCell Ln _)
  .have hi:¬(k:Int)<4:=ao9;have k4:k=4:=ao9;subst k4;have q:=n.cut;rw[Ab ao9]at q;have aB:Kc z=(Z7 l).told 11:=(by unfold Kc;rw[q,Ad n.len]);have hv:=n.val;have e0:=hv 0 ao9;have y:=hv 1 ao9;have e2:=hv 2 ao9;have e3:=hv 3 ao9;have cc:=Aa n.arr;obtain⟨v,hv⟩:∃v:V4,v=Z7 l:=⟨_,rfl⟩;have hc:(#[Z G (f 0),Z G (f 1),Z G (f 2),Z G (f 3)]:Array Value)=v.cells:=(by rw[hv,e0,y,e2,e3];rfl);rw[hc]at cc;have aF:=Z1 v 11 wr;clear e0 y e2 e3 hc;rw[<-hv]at aB;replace⟨q,aB,hv,aF⟩:=H4 q aB hv aF;go_wp2_with fail;refine aF.mono ?_;rintro e w2 ⟨rfl,p⟩;have c:=n.low.trans (p.mono n.low.size);have g2:=Ae p n.res (Ac n.res);clear cc;have cx:=Aa g2;have fx:=Ag g2;obtain⟨u,hu⟩:∃u:V4,u=(v.told 11).1:=⟨_,rfl⟩;obtain⟨r,hr⟩:∃r:Int,r=(v.told 11).2:=⟨_,rfl⟩;rw[<-hu,<-hr];have av:Kc z=(u,r):=(by rw[aB.out,hu,hr]);replace⟨p,c,g2,hu,hr,av⟩:=H6 p c g2 hu hr av;go_wp2;refine An (v:=D #[u.val,Z G r]) (by simp[results,results79,go_sem,cx]) rfl ⟨by rw[av.out],?_⟩;exact((((c.setCell Ln _).setCell Ln _).setCell Ln _).setCell Ln _)
