/- Parts Pcs, Vrd. Plain theorems: no condition. -/
import Derived.Test.YtimlcnhcjndijaaGreatDoorQ02
import Derived.Test.YtimlcnhcjndijaaGreatDoorQ03
set_option linter.all false
set_option maxRecDepth 100000
set_option maxHeartbeats 3200000
namespace Go.Proofs.YtimlcnhcjndijaaGreatDoor
open Go.RowKit
def cn (l:List UInt8):ByteArray:=⟨l.toArray⟩
def Ot (l:List UInt8):(cn l).data.toList=l:=by simp [cn]
def Xw (s:ByteArray):cn s.data.toList=s:=rfl
def Nx (l:List UInt8):(cn l).size=l.length:=rfl
def S8 {a b:ByteArray} (h:a.data.toList=b.data.toList):a=b:=by rw [<- Xw a,h,Xw]
def U3 (s:ByteArray):s.data.toList.length=s.size:=rfl
def Be (x:UInt8):List UInt8->List (List UInt8)
 | []=>[[]]
 | b :: l=>if b=x then [] :: Be x l else (b :: (Be x l).headD []) :: (Be x l).tail
def Ajg (x:UInt8) (l:List UInt8):Be x l≠[]:=by
 cases l with
 | nil=>simp [Be]
 | cons b l=>unfold Be;split<;>simp
def S9 {x:UInt8} {l:List UInt8} (h:x∉l):Be x l=[l]:=by
 induction l with
 | nil=>rfl
 | cons b l ih=>
  have h1:¬ b=x:=fun e=>h (by rw [e];exact E2 ..);have a:=ih (fun e=>h (D1 _ e));unfold Be;rw [Ac h1,a];rfl
def Ta {x:UInt8} {a r:List UInt8} (h:x∉a):Be x (a++x :: r)=a :: Be x r:=by
 induction a with
 | nil=>show Be x (x :: r)=_;rw [Be,Ad rfl]
 | cons b a ih=>
  have h1:¬ b=x:=fun e=>h (by rw [e];exact E2 ..);have c:=ih (fun e=>h (D1 _ e));show Be x (b :: (a++x :: r))=_;rw [Be,Ac h1,c];rfl
def Xx (x:UInt8) (l:List UInt8):x∉l\/∃ a r,l=a++x :: r/\x∉a:=by
 induction l with
 | nil=>exact .inl (by simp)
 | cons b l ih=>
  by_cases e:b=x
  .exact .inr ⟨[],l,by rw [e];rfl,by simp⟩
  .rcases ih with h | ⟨a,r,h1,d⟩
   .exact .inl (by simp [h];exact fun c=>e c.symm)
   .exact .inr ⟨b :: a,r,by rw [h1];rfl,by simp [d];exact fun c=>e c.symm⟩
def Xy {x:UInt8} {l:List UInt8} (h:x∉l):Lib.index l [x]=-1:=by
 induction l with
 | nil=>rfl
 | cons b l ih=>
  have h1:¬ x=b:=fun e=>h (by rw [e];exact E2 ..);have a:=ih (fun e=>h (D1 _ e));unfold Lib.index;have e:[x].isPrefixOf (b :: l)=false:=by simp [List.isPrefixOf,h1]
  rw [e,a];rfl
def Abb {x:UInt8} {a r:List UInt8} (h:x∉a):Lib.index (a++x :: r) [x]=a.length:=by
 induction a with
 | nil=>
  show Lib.index (x :: r) [x]=_;unfold Lib.index;have e:[x].isPrefixOf (x :: r)=true:=by simp [List.isPrefixOf]
  rw [e];rfl
 | cons b a ih=>
  have h1:¬ x=b:=fun e=>h (by rw [e];exact E2 ..);have c:=ih (fun e=>h (D1 _ e));show Lib.index (b :: (a++x :: r)) [x]=_;unfold Lib.index;have e:[x].isPrefixOf (b :: (a++x :: r))=false:=by simp [List.isPrefixOf,h1]
  rw [e,c];have d:((a.length:Int) == -1)=false:=by simp only [Bg];omega
  simp [d]
def Ajh {x:UInt8} {l:List UInt8} (h:x∉l):Lib.cut l [x]=(l,[],false):=by
 unfold Lib.cut;rw [Xy h];rfl
def Aji {x:UInt8} {a r:List UInt8} (h:x∉a):Lib.cut (a++x :: r) [x]=(a,r,true):=by
 unfold Lib.cut;rw [Abb h,Ad (by omega)];simp
def Ajj (x:UInt8):∀ (n:Nat) (s:ByteArray),s.size<=n->Lib.splitB (cn [x]) 0 (Lib.countB s (cn [x])) s=(Be x s.data.toList).map cn/\Lib.countB s (cn [x])+1=(Be x s.data.toList).length:=by
 intro n
 induction n with
 | zero=>
  intro s i;have h0:s.data.toList=[]:=Fw.1 (by rw [U3];omega);have b:Lib.indexB s (cn [x])=-1:=by show Lib.index s.data.toList [x]=-1;exact Xy (by rw [h0];simp)
  rw [Lib.countB_miss s _ b,Lib.splitB_zero,h0];exact ⟨by rw [<- Xw s,h0];rfl,rfl⟩
 | succ n ih=>
  intro s i;rcases Xx x s.data.toList with h | ⟨a,r,h1,c⟩
  .have b:Lib.indexB s (cn [x])=-1:=(by show Lib.index s.data.toList [x]=-1;exact Xy h);rw [Lib.countB_miss s _ b,Lib.splitB_zero,S9 h];exact ⟨rfl,rfl⟩
  .have b:Lib.indexB s (cn [x])=(a.length:Nat):=by show Lib.index s.data.toList [x]=_;rw [h1];exact Abb c
   have d:s.extract (a.length+(cn [x]).size) s.size=cn r:=S8 (by
    rw [Lib.extract_to_end,Ot,h1,Nx];show List.drop (a.length+1) (a++x :: r)=r
    rw [List.drop_append];simp)
   have j:s.extract 0 (a.length+0)=cn a:=S8 (by rw [Lib.extract_from_zero,Ot,h1];simp)
   have k:(cn r).size<=n:=by
    have:s.data.toList.length=a.length+(r.length+1):=by rw [h1];simp
    rw [U3] at this;rw [Nx];omega
   obtain ⟨e,f⟩:=ih (cn r) k;rw [Ot] at e f;have g:=Lib.countB_hit s (cn [x]) a.length Ln b;rw [d] at g;rw [g,Nat.add_comm 1,Lib.splitB_hit _ _ _ _ _ b,d,j,e,h1,Ta c];exact ⟨rfl,by simp [<- f]⟩
def Mx (w:World):Prop:=∃ m,w.cell? ⟨0,0,none⟩=some (.int .i64 m)
def Mx.pos {w:World} (h:Mx w):0<w.heap.size:=by
 obtain ⟨m,h⟩:=h;simp only [World.cell?] at h
 cases hx:w.heap[0]? with
 | none=>simp [hx] at h
 | some o=>exact (Sr.1 hx).1
def Mx.below {w w':World} {B:Nat} (h:Mx w) (a:Below B w w') (b:0<B):Mx w':=by
 obtain ⟨m,h⟩:=h;exact ⟨m,(Ag a b).trans h⟩
def Mx.low {w w':World} (h:Mx w) (a:Below w.heap.size w w'):Mx w':=h.below a h.pos
def Abc (s:ByteArray) (x:UInt8) (w:World) (h:Mx w) (f:s.size<4294967281) :
  Calls Tryz.prog 76 #[.string s,.string (cn [x])] w fun e w'=>(∃ a r b,e=.returned (.tuple #[.string (cn a),.string (cn r),.bool b])/\((b=false/\a=s.data.toList/\r=[]/\x∉a)\/(b=true/\s.data.toList=a++x :: r/\x∉a)))/\∃ n,w'=w.drewN n:=by
 obtain ⟨m,g⟩:=h;refine (Tryz.strings_Cut s (cn [x]) m w f g).mono fun e w' ⟨he,hn⟩=>?_;refine ⟨?_,hn⟩;rw [Ot] at he;rcases Xx x s.data.toList with c | ⟨a,r,h1,d⟩
 .rw [Ajh c] at he;exact ⟨s.data.toList,[],false,he,.inl ⟨rfl,rfl,rfl,c⟩⟩
 .rw [h1,Aji d] at he;exact ⟨a,r,true,he,.inr ⟨rfl,h1,d⟩⟩
def Ajk (s:ByteArray) (x:UInt8) (w:World) (h:Mx w) (a:s.size<4294967281) :
  Calls Tryz.prog 77 #[.string s,.string (cn [x])] w fun e w'=>e=.returned (.slice (some ⟨w.heap.size,0,none⟩) (Be x s.data.toList).length (Be x s.data.toList).length)/\w'=w.alloc (.cells (((Be x s.data.toList).map cn).map Value.string).toArray 9):=by
 obtain ⟨m,b⟩:=h;refine (Tryz.strings_Split s (cn [x]) m w a b Ln).mono fun e w' ⟨he,hn⟩=>?_;obtain ⟨c,d⟩:=Ajj x s.size s Ln;rw [d] at he;rw [c] at hn;exact ⟨he,hn⟩
def J5 (ps:List (List UInt8)) (j:Nat):Int:=Fh (cn (ps.getD j [])) 10
def Xz (ps:List (List UInt8)):V4:=⟨J5 ps 0,J5 ps 1,J5 ps 2,J5 ps 3⟩
def J6 (s:ByteArray):V4×Int:=if (Be 44 s.data.toList).length=4 then (Xz (Be 44 s.data.toList)).told 11 else (V4.zero,11)
def Abd {s:ByteArray} (h:(Be 44 s.data.toList).length≠4):J6 s=(V4.zero,11):=Ac h
def Abe {α:Type} (a:List α) (x:α) (b:List α) (d:α) (k:Nat) (c:a.length=k):(a++x :: b).getD k d=x:=by
 subst c;simp [List.getD]
def Abf {α:Type} (a b:List α) (d:α) {j:Nat} (c:j<a.length):(a++b).getD j d=a.getD j d:=by
 simp [List.getD,Fv c]
structure uy (w:World) (s0:ByteArray) (k:Nat) (done:List (List UInt8)) (rest:List UInt8) (f:Nat->Int) (wr:World):Prop where
 low:Below w.heap.size w wr
 mx:Mx wr
 res:wr.heap[w.heap.size]?=some (.cells V4.zero.cells 30 (0,0))
 arr:wr.heap[w.heap.size+1]?=some (.cells #[.int .i64 (f 0),.int .i64 (f 1),.int .i64 (f 2),.int .i64 (f 3)] 30 (0,0))
 val:∀ j,j<k->f j=J5 done j
 len:done.length=k
 cut:if k<4 then Be 44 s0.data.toList=done++Be 44 rest else Be 44 s0.data.toList=done
 ug:rest.length<=s0.size
def Abg (x:UInt8) (l:List UInt8):1<=(Be x l).length:=by
 cases h:Be x l with
 | nil=>exact absurd h (Ajg _ _)
 | cons p ps=>simp
def A8 (B:Nat) (w:World) (n:Nat):Below B w (w.drewN n):=⟨rfl,rfl,rfl,Nat.le_refl _,fun _ _=>rfl⟩
def Abh {w w':World} {n:Nat} (h:Below (w.drewN n).heap.size (w.drewN n) w'):Below w.heap.size w w':=(A8 _ _ _).trans h
def Ajl (z:ByteArray) (w:World) (hm:Mx w) (hs:z.size<=4294967280):Calls Tryz.prog 79 #[.string z] w fun e w'=>e=.returned (.tuple #[(J6 z).1.val,.int .i64 (J6 z).2])/\Below w.heap.size w w':=by
 have ao:=Hh hm.pos
 have h0:uy w z 0 [] z.data.toList (fun _=>0) ((w.alloc (.cells V4.zero.cells 30 (0,0))).alloc (.cells V4.zero.cells 30 (0,0))):=
  ⟨Bn.alloc (by simp) _,hm.low (Bn.alloc (by simp) _),Ai _ (Af _ _),A2 _ _ (by simp),fun j hj=>absurd hj (Pq _),rfl,by simp,Nat.le_refl _⟩
 replace ⟨h0,hm⟩:=H2 h0 hm;go_enter Tryz.func79,Tryz.ntmps79;go_wp2;go_loopw [0,5,6,7,8,9] (fun sv _ _ _ _ i wr=>∃ (k:Nat) (l:List (List UInt8)) (rest:List UInt8) (f:Nat->Int),k<=4/\i=.int .i64 k/\sv=.string (cn rest)/\Hid (uy w z k l rest f wr)) (fun _ _ _ _ _ i _=>4-(intOf i).toNat)
 case atStart=>exact ⟨0,[],z.data.toList,fun _=>0,by omega,rfl,rfl,h0.out⟩
 case round=>
  obtain ⟨k,l,rest,f,hk,rfl,rfl,n⟩:=hrel;by_cases h4:k<4
  .have hi:(k:Int)<4:=(by omega);have aB:=Abc (cn rest) 44 wr n.out.mx (by rw [Nx];have:=n.out.ug;omega);rw [Ot] at aB;have p:=n.out.cut;rw [Ad h4] at p;replace ⟨aB,p⟩:=H2 aB p;go_wp2_with fail;refine aB.out.mono ?_;rintro e w1 ⟨⟨a,r,b,rfl,aD⟩,nd,rfl⟩
   have d:a.length<=z.size/\r.length<=z.size:=by
    have:=n.out.ug;rcases aD with ⟨_,y,e2,_⟩ | ⟨_,y,_⟩
    .rw [y,e2];exact ⟨this,by simp⟩
    .have e:=Ca List.length y;simp at e;omega
   by_cases h3:k<3
   .have d3:decide ((k:Int)<3)=true:=Az (by omega);have aI:=Az h3;rcases aD with ⟨rfl,y,e2,e3⟩ | ⟨rfl,y,e3⟩
    .have s:(Be 44 z.data.toList).length≠4:=(by rw [p.out,<- y,S9 e3];simp [n.out.len];omega);replace ⟨s,y,e2,e3,d⟩:=H5 s y e2 e3 d;have hz:=Abd s.out;have cx:=Aa n.out.res;have fx:=Ah n.out.res;have t:=n.out.low;replace ⟨hz,t⟩:=H2 hz t;go_wp2;refine Ao (v:=.tuple #[V4.zero.val,.int .i64 11]) (by simp [results,Tryz.results79,go_sem,cx,V4.zero]) rfl ⟨by rw [hz.out],?_⟩;exact (((((t.out.trans (A8 _ _ _)).setCell Ln _).setCell Ln _).setCell Ln _).setCell Ln _)
    .have hcut:if k+1<4 then Be 44 z.data.toList=(l++[a])++Be 44 r else Be 44 z.data.toList=l++[a]:=(by rw [Ad (by omega),p.out,y,Ta e3];simp);have ad:=d.2;have ac:=d.1;replace ⟨hcut,y,e3,d,ad⟩:=H5 hcut y e3 d ad;clear d;have d:=ac;replace d:=Hh d;clear ac;have al:=Aba (cn a) (wr.drewN nd) (by rw [Nx];have:=d.out;have:maxLen=9223372036854775807:=rfl;omega);replace al:=Hh al;go_wp2_with fail;refine al.out.mono ?_;rintro e w2 ⟨rfl,q⟩;have o:=Abh q;have g:=Ae o n.out.arr (Ab n.out.arr);have g2:=Ae o n.out.res (Ab n.out.res);have cc:=Aa g;have ff:=Ah g;have c:=n.out.low.trans (o.mono n.out.low.size);have x:=n.out.mx.low o
     obtain ⟨f',aE,aF⟩:∃ f':Nat->Int,Hid (∀ j,j<k+1->f' j=J5 (l++[a]) j)/\Hid (∀ j,f' j=if j=k then Fh (cn a) 10 else f j):=by
      refine ⟨fun j=>if j=k then Fh (cn a) 10 else f j,fun j hj=>?_,fun _=>rfl⟩;show (if j=k then Fh (cn a) 10 else f j)=J5 (l++[a]) j;split
      .next h=>rw [h];unfold J5;rw [Abe _ _ _ _ _ n.out.len]
      .rw [n.out.val j (by omega)];unfold J5;rw [Abf _ _ _ (by rw [n.out.len];omega)]
     replace ⟨q,o,g,g2,c,x⟩:=H6 q o g g2 c x;obtain ⟨W3,am⟩:=Ex (w2.setCell ⟨w.heap.size+1,k,none⟩ (.int .i64 (Fh (cn a) 10)))
     have an:uy w z (k+1) (l++[a]) r f' W3:=by
      rw [am];refine ⟨c.out.setCell (by simp) _,?_,Dh (by omega) _ g2.out,?_,aE.out,by simp [n.out.len],hcut.out,ad.out⟩
      .obtain ⟨m,hm⟩:=x.out;exact ⟨m,(Bp (a:=⟨0,0,none⟩) (w:=w2) (Cd _ _ _ _ (by have:=ao.out;show (0:Nat)≠w.heap.size+1;omega))).trans hm⟩
      .rw [Al g.out]
       rcases se h4 with rfl | rfl | rfl | rfl<;>simp [aF.out]
     replace an:=Hh an;have ap:=Hh am;clear am;rcases (show k=0\/k=1\/k=2 by omega) with rfl | rfl | rfl
     all_goals
      go_wp2
      try rw [<- ap.out]
      go_roundw
      case rel=>exact ⟨_,_,_,f',by omega,by go_num,rfl,an.out⟩
      case measure=>simp [intOf]
   .have av:k=3:=(by omega);have d3:decide ((k:Int)<3)=false:=Aw (by omega);have aI:=Aw h3;rcases aD with ⟨rfl,y,e2,e3⟩ | ⟨rfl,y,e3⟩
    .have hcut:if k+1<4 then Be 44 z.data.toList=(l++[a])++Be 44 r else Be 44 z.data.toList=l++[a]:=(by rw [Ac (by omega),p.out,<- y,S9 e3]);have ad:=d.2;have ac:=d.1;replace ⟨hcut,y,e2,e3,d,ad,av⟩:=H7 hcut y e2 e3 d ad av;clear d;have d:=ac;replace d:=Hh d;clear ac;have al:=Aba (cn a) (wr.drewN nd) (by rw [Nx];have:=d.out;have:maxLen=9223372036854775807:=rfl;omega);replace al:=Hh al;go_wp2_with fail;refine al.out.mono ?_;rintro e w2 ⟨rfl,q⟩;have o:=Abh q;have g:=Ae o n.out.arr (Ab n.out.arr);have g2:=Ae o n.out.res (Ab n.out.res);have cc:=Aa g;have ff:=Ah g;have c:=n.out.low.trans (o.mono n.out.low.size);have x:=n.out.mx.low o
     obtain ⟨f',aE,aF⟩:∃ f':Nat->Int,Hid (∀ j,j<k+1->f' j=J5 (l++[a]) j)/\Hid (∀ j,f' j=if j=k then Fh (cn a) 10 else f j):=by
      refine ⟨fun j=>if j=k then Fh (cn a) 10 else f j,fun j hj=>?_,fun _=>rfl⟩;show (if j=k then Fh (cn a) 10 else f j)=J5 (l++[a]) j;split
      .next h=>rw [h];unfold J5;rw [Abe _ _ _ _ _ n.out.len]
      .rw [n.out.val j (by omega)];unfold J5;rw [Abf _ _ _ (by rw [n.out.len];omega)]
     replace ⟨q,o,g,g2,c,x⟩:=H6 q o g g2 c x;obtain ⟨W3,am⟩:=Ex (w2.setCell ⟨w.heap.size+1,k,none⟩ (.int .i64 (Fh (cn a) 10)))
     have an:uy w z (k+1) (l++[a]) r f' W3:=by
      rw [am];refine ⟨c.out.setCell (by simp) _,?_,Dh (by omega) _ g2.out,?_,aE.out,by simp [n.out.len],hcut.out,ad.out⟩
      .obtain ⟨m,hm⟩:=x.out;exact ⟨m,(Bp (a:=⟨0,0,none⟩) (w:=w2) (Cd _ _ _ _ (by have:=ao.out;show (0:Nat)≠w.heap.size+1;omega))).trans hm⟩
      .rw [Al g.out]
       rcases se h4 with rfl | rfl | rfl | rfl<;>simp [aF.out]
     replace an:=Hh an;have ap:=Hh am;clear am;have aH:=av.out;subst aH
     all_goals
      go_wp2
      try rw [<- ap.out]
      go_roundw
      case rel=>exact ⟨_,_,_,f',by omega,by go_num,rfl,an.out⟩
      case measure=>simp [intOf]
    .have s:(Be 44 z.data.toList).length≠4:=(by rw [p.out,y,Ta e3];have:=Abg 44 r;simp [n.out.len];omega);replace ⟨s,y,e3,d,av⟩:=H5 s y e3 d av;have hz:=Abd s.out;have cx:=Aa n.out.res;have fx:=Ah n.out.res;have t:=n.out.low;replace ⟨hz,t⟩:=H2 hz t;go_wp2;refine Ao (v:=.tuple #[V4.zero.val,.int .i64 11]) (by simp [results,Tryz.results79,go_sem,cx,V4.zero]) rfl ⟨by rw [hz.out],?_⟩;exact (((((t.out.trans (A8 _ _ _)).setCell Ln _).setCell Ln _).setCell Ln _).setCell Ln _)
  .have hi:¬ (k:Int)<4:=(by omega);have k4:k=4:=(by omega);subst k4;have p:=n.out.cut;rw [Ac (by omega)] at p;have aC:J6 z=(Xz l).told 11:=(by unfold J6;rw [p,Ad n.out.len]);have hv:=n.out.val;have e0:=hv 0 (by omega);have y:=hv 1 (by omega);have e2:=hv 2 (by omega);have e3:=hv 3 (by omega);have cc:=Aa n.out.arr;obtain ⟨v,hv⟩:∃ v:V4,v=Xz l:=⟨_,rfl⟩;have hc:(#[.int .i64 (f 0),.int .i64 (f 1),.int .i64 (f 2),.int .i64 (f 3)]:Array Value)=v.cells:=(by rw [hv,e0,y,e2,e3];rfl);rw [hc] at cc;have aG:=Xs v 11 wr;clear e0 y e2 e3 hc;rw [<- hv] at aC;replace ⟨p,aC,hv,aG⟩:=H4 p aC hv aG;go_wp2_with fail;refine aG.out.mono ?_;rintro e w2 ⟨rfl,q⟩;have c:=n.out.low.trans (q.mono n.out.low.size);have g2:=Ae q n.out.res (Ab n.out.res);clear cc;have cx:=Aa g2;have fx:=Ah g2;obtain ⟨u,hu⟩:∃ u:V4,u=(v.told 11).1:=⟨_,rfl⟩;obtain ⟨r,hr⟩:∃ r:Int,r=(v.told 11).2:=⟨_,rfl⟩;rw [<- hu,<- hr];have aA:J6 z=(u,r):=(by rw [aC.out,hu,hr]);replace ⟨q,c,g2,hu,hr,aA⟩:=H6 q c g2 hu hr aA;go_wp2;refine Ao (v:=.tuple #[u.val,.int .i64 r]) (by simp [results,Tryz.results79,go_sem,cx]) rfl ⟨by rw [aA.out],?_⟩;exact ((((c.out.setCell Ln _).setCell Ln _).setCell Ln _).setCell Ln _)
end Go.Proofs.YtimlcnhcjndijaaGreatDoor
