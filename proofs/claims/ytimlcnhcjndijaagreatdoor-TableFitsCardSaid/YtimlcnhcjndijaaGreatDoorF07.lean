/- Parts of a proof. No condition. -/
import Derived.Test.YtimlcnhcjndijaaGreatDoorF06
import Derived.Deep.RegionHeld3
set_option linter.all false
set_option maxRecDepth 100000
set_option maxHeartbeats 6400000
namespace Go.Proofs.YtimlcnhcjndijaaGreatDoor
open Go renaming World->WD,Value->VL
open Go.RowKit renaming Below->BW
open Go.Proofs.Tryz
section
open Go.RowKit Go.Maps Go.Lib
variable{b base n size:Nat}{P:Program}{T:TypeId}{v:VL}{w:WD}
instance A2b:DecidableEq ByteArray:=fun a b=>decidable_of_iff (a.data.toList=b.data.toList) ⟨O4,fun h=>by rw [h]⟩
def Gi (ns:List ByteArray) (s:ByteArray):Bool:=ns.any fun n=>decide (n=s)
def N3 {a:List ByteArray} {s:ByteArray}:Gi a s=true↔s∈a:=by
 unfold Gi;rw [Kz];exact ⟨fun ⟨x,h1,h2⟩=>by rw [<- Kx h2];exact h1,fun h=>⟨s,h,Av rfl⟩⟩
def L2:List ByteArray->Bool
 | []=>false
 | p :: ps=>Gi ps p || L2 ps
def Db (ns:List ByteArray) (m:Nat) (name:ByteArray) (parts:List ByteArray):Int:=
 if Gi ns name=true then 51 else if L2 parts=true then 51 else if 16<=m\/8<parts.length then 2 else 0
structure Jr (fb mb base lo:Nat) (w w':WD):Prop where
 low:BW lo w w'
 same:∀ (k:Nat) (o:Obj),w.heap[k]?=some o->k≠mb->k≠fb->(k<base\/∀ c fr,o≠.cells c 69 fr)->w'.heap[k]?=some o
def Amc (w:WD):(zeroValue 3).run prog w=.ok (.int .i64 0) w:=by kernel_rfl
def Amd  {b a base:Nat} {g:VL} {xs:List aq} (h:jk w b a base g xs) (s:ByteArray) (f:s.size<=maxLen) :
  ∃ c,(Instr.lookup 99 (.map (some a)) (.string s) true).run prog w=.ok (.tuple #[.int .i64 c,.bool (has (K3 (xs.map aq.name)) (By s))]) w/\(K3 (xs.map aq.name)).atKey (By s) (.lit (.int .i64 0))=.lit (.int .i64 c):=by
 obtain ⟨v,i,h1,d⟩:=h.map.look_ok (string_keyed Eg) underlying99 (Amc w) (plainElem_int D2 (by decide)) (U5 Eg f);obtain ⟨c,rfl,e,_⟩:=plainElem_int_inv D2 d;exact ⟨c,h1,Ca Prod.fst e⟩
def V9  {t e:TypeId} {i:TypeInfo} (d:P.underlying t=some (.slice e)) (f:P.info? e=some i) (b:Addr) (a cap n:Nat) (x:Int) (j:x=n) (g:n<=cap) (w:WD) :
  (Instr.slice t (.slice (some b) a cap) none (some (.int .i64 x)) none).run P w=.ok (.slice (some b) n cap) w:=by
 subst j
 have h1:∀ (y:Nat) (_:n<=y) c,(Instr.sliceBound (.int .i64 (n:Int)) y c).run P w=.ok n w:=fun y h c=>by
  simp [Instr.sliceBound,asIntOf,h]
 simp [Instr.slice,Instr.sliceBounds,Mu d,h1 cap g,sizeOf,typeInfo,f,Addr.add]
def Tk (l:List ByteArray) (k:Nat):Prop:=∃ i j s,j<i/\i<k/\l[i]?=some s/\l[j]?=some s
def Wa (l:List ByteArray):L2 l=true↔Tk l l.length:=by
 induction l with
 | nil=>exact ⟨fun h=>(by cases h),fun ⟨i,j,s,h1,b,_⟩=>absurd b (Mt _)⟩
 | cons p ps ih=>
  unfold L2;rw [Bool.or_eq_true,ih,N3];constructor
  .rintro (h | ⟨i,j,s,h1,b,c,a⟩)
   .obtain ⟨i,d,e⟩:=Yw h;exact ⟨i+1,0,p,by omega,by simp;omega,by simp [A4 d,e],by simp⟩
   .exact ⟨i+1,j+1,s,by omega,by simp;omega,by simpa using c,by simpa using a⟩
  .rintro ⟨i,j,s,h1,b,c,a⟩
   cases i with
   | zero=>omega
   | succ i=>
    simp at b c
    cases j with
    | zero=>simp at a;subst a;exact .inl (Ai c)
    | succ j=>simp at a;exact .inr ⟨i,j,s,by omega,b,c,a⟩
def Ado:0<6:=I3 _
def Adp:(prog.info? 69).map (fun i=>(i.zero,i.size,i.bytes))=some (some (.agg #[.string ByteArray.empty,.int .i64 0,.int .i64 0,.int .i64 0,.int .i64 0,.slice none 0 0]),6,72):=by kernel_rfl
def Adq (x:aq):∀ u∈x.cells.toList,u.oneCell'=true:=by simp [Value.oneCell']
def Wb  {f d base k:Nat} {i:VL} {xs:List aq} {c:Array VL}  {fr:Nat×Nat} (h:jk w f d base i xs) (b:w.heap[k]?=some (.cells c T fr)):k≠d:=fun e=>by
 obtain ⟨j,a,g,_⟩:=h.map;rw [e,g] at b;cases b
def Adr (w:WD) (x:aq):∀ j u,x.cells.toList[j]?=some u->(w.alloc (.cells x.cells 69 (0,0))).cell? ((⟨w.heap.size,0,none⟩:Addr).add j)=some u:=by
 intro j u a;rw [Vt,Da,Aa (Ah w _) j];simpa using a
def Zo  {base size n g:Nat} {e:TypeId}  {xs:List VL} (h:w.ownsRow base e size v n xs) (b:v.ownBlock=some g):∃ a,w.heap[g]?=some (.cells a e (0,0)):=by
 rcases h.2 with ⟨c,_⟩ | ⟨f,cap,a,c,_,i,_⟩
 .rw [c] at b;simp [Value.ownBlock] at b
 .rw [c] at b;have d:f=g:=by simpa [Value.ownBlock] using b
  subst d;exact ⟨a,i⟩
def Jr.ki {c e base b:Nat} {w w':WD} (h:BW w.heap.size w w') (d:b<=w.heap.size):Jr c e base b w w':=
 ⟨h.mono d,fun _ _ a _ _ _=>Ae h a (Ab a)⟩
structure yg (base fb:Nat) (w5:WD) (X:aq) (nv:VL) (n:Nat) (xs:List aq) (wx:WD):Prop where
 ex:∃ v1 w9,w9.ownsRow base 69 6 v1 (n+1) (Au aq.cells xs++X.cells.toList)/\((w5.alloc (.cells X.cells 69 (0,0))).drew).grownBy w9 nv.ownBlock/\wx=w9.setCell ⟨fb,0,none⟩ v1
def Tl  {q:Array Oper} {o:Oper} {a:Act}  {K:Act->WD->Prop} {Q:Exit->Act->WD->Prop} {E:Prop} (al:o.guard=none) (s x:Operand) (t:TypeId)
  (ho:o.op=.call { callee:=.builtin .append,args:=#[s,x],argTypes:=#[t,t] })
  (base:Nat) (e:TypeId) (i:TypeInfo) (z:VL) (size d:Nat) (ht:P.underlying t=some (.slice e)) (hi:P.info? e=some i) (hz:i.zero=some z)
  (m:i.size=size) (ac:i.bytes=d) (an:z.cells.size=size) (am:0<size)
  (v:VL) (n:Nat) (xs:List VL) (hs:a.eval s=v) (p:w.ownsRow base e size v n xs)
  (r:Addr) (c:Nat) (b:List VL) (hx:a.eval x=.slice (some r) 1 c) (hl:b.length=1*size) (l:∀ j u,b[j]?=some u->w.cell? (r.add j)=some u) (h1:∀ u∈b,u.oneCell'=true)
  (y:n+1<=maxLen) (f:(n+1)*d<=140737488355328) (k:base<=w.heap.size)
  (h:∀ g cap w',w'.ownsRow base e size (.slice (some ⟨g,0,none⟩) (n+1) cap) (n+1) (xs++b)->w.grownBy w' v.ownBlock->K (a.put o.dst (.slice (some ⟨g,0,none⟩) (n+1) cap)) w') :
  if Region.wanted o (yielded q a.tmps)=true then Oper.wp P o a w K Q else E:=by
 have hw:Region.wanted o (yielded q a.tmps)=true:=by simp [Region.wanted,al]
 rw [Ad hw]
 exact wp_append_own w s x t ho base e i z size d ht hi hz m ac an am v n xs hs p r 1 c b hx hl l h1 y f k fun v' w' h2 h3 _=>by
  obtain ⟨g,cap,rfl⟩:=Joins.ownsRow_form h2 (I3 _);exact h g cap w' h2 h3
structure yj (W2:WD) (tb:Bool) (tv:VL) (wx:WD):Prop where
 tv:tv=.bool tb
 wx:wx=W2
structure ye (W1:WD) (c:Int) (b:Bool) (cv bv:VL) (wx:WD):Prop where
 cv:cv=.int .i64 c
 bv:bv=.bool b
 wx:wx=W1.drew
def Ads   {e T:TypeId}  {xs:List VL} {o:Array VL} (h:w.ownsRow base e size v n xs) (l:w.heap[b]?=some (.cells o T (0,0))) (k:T≠e) (i:Nat) (u:VL):(w.setCell ⟨b,i,none⟩ u).ownsRow base e size v n xs:=by
 obtain ⟨h1,j⟩:=h;refine ⟨h1,?_⟩;rcases j with h | ⟨g,cap,d,q,m,a,p⟩
 .exact .inl h
 .have f:g≠b:=fun c=>by rw [c,l] at a;simp at a;exact k a.2
  exact .inr ⟨g,cap,d,q,m,C0 f _ a,p⟩
def Ame {w wc m g:WD} {d q base lo n:Nat} {nv i:VL} {xs:List aq} {x:aq} (hF:jk wc d q base nv xs) (hn:n=xs.length) (am:lo<=d) (an:lo<=q) (ac:lo<=base) (z:wc.drew.grownBy m (some q))
  (av:m.ownsMap prog 9 (plainElem (H:=Unit) prog 3) q (n+1) ((K3 (xs.map aq.name)).put (By x.name) (.lit (.int .i64 (n:Int)))))
  (p:((m.alloc (.cells x.cells 69 (0,0))).drew).grownBy g nv.ownBlock) (aB:g.ownsRow base 69 6 i (n+1) (Au aq.cells xs++x.cells.toList)) (h9:g.heap[d]?=some (.cells #[nv,.map (some q)] 101 (0,0)))
  (hx:x.ok wc) (hp:K4 wc x) (ad:base<=w.heap.size) (j:BW w.heap.size w wc) :
  jk (g.setCell ⟨d,0,none⟩ i) d q base i (xs++[x])/\Jr d q base lo w (g.setCell ⟨d,0,none⟩ i):=by
 have aC:wc.heap.size<=m.heap.size:=z.size;have aF:m.heap.size+1<=g.heap.size:=by have:=p.size;rw [show ((m.alloc (.cells x.cells 69 (0,0))).drew).heap.size=m.heap.size+1 from I2 _ _] at this;exact this
 have s:∀ k,nv.ownBlock=some k->base<=k/\∃ u,wc.heap[k]?=some (.cells u 69 (0,0)):=fun k e=>⟨(hF.row.lt k e).1,Zo hF.row e⟩
 have t:∀ (k:Nat) (o:Obj),wc.heap[k]?=some o->k≠q->k≠d->(k<base\/∀ c fr,o≠.cells c 69 fr)->(g.setCell ⟨d,0,none⟩ i).heap[k]?=some o:=fun k o hk h1 v h3=>by
  have ap:=Ab hk;refine C0 v _ ?_;refine (p.block k (by show k<(m.alloc _).heap.size;rw [I2];omega) (fun e=>?_)).trans (Aj _ ((z.block k ap (fun e=>h1 (by cases e;rfl))).trans hk));obtain ⟨e1,u,e2⟩:=s k e.symm;rcases h3 with h3 | h3
  .omega
  .rw [hk] at e2;exact h3 _ _ (Lx e2)
 have aD:wc.heap.size<=(g.setCell ⟨d,0,none⟩ i).heap.size:=by
  have:(g.setCell ⟨d,0,none⟩ i).heap.size=g.heap.size:=by simp [World.setCell]
  omega
 have l:∀ y:aq,y.ok wc->K4 wc y->y.ok (g.setCell ⟨d,0,none⟩ i)/\K4 (g.setCell ⟨d,0,none⟩ i) y:=fun y hy aE=>by
  have al:∀ b f,y.po=some ⟨b,f,none⟩->∃ c,wc.heap[b]?=some (.cells c 9 (0,0))/\(g.setCell ⟨d,0,none⟩ i).heap[b]?=some (.cells c 9 (0,0)):=fun b f e=>by
   obtain ⟨c,hc⟩:=aE b f e;refine ⟨c,hc,t b _ hc (Wb hF hc) (fun e=>?_) (.inr fun c' fr e=>by injection e with e1 e2 e3;exact absurd e2 (by decide))⟩;rw [e,hF.head] at hc;simp at hc
  refine ⟨⟨N1 hy.parts aD fun b f e _=>?_,hy.lg⟩,fun b f e=>?_⟩
  .obtain ⟨c,h1,v⟩:=al b f e;rw [h1,v]
  .obtain ⟨c,_,v⟩:=al b f e;exact ⟨c,v⟩
 refine ⟨⟨by rw [Am h9];rfl,?_,?_,fun y hy=>?_⟩,?_,fun k o hk h1 v h3=>t k o (Ae j hk (Ab hk)) h1 v h3⟩
 .have:=Ads aB h9 (by decide) 0 i;rw [N0,P7,Cn,<- hn];exact this
 .rw [C9,Cn,<- hn]
  have aA:=((av.alloc (.cells x.cells 69 (0,0))).drew.kept p (fun e=>by
   obtain ⟨_,u,e2⟩:=s q e.symm
   exact Wb hF e2 rfl)).setCell (a:=⟨d,0,none⟩) (fun e=>Wb hF hF.head e.symm) i
  rw [show List.map aq.name [x]=[x.name] from rfl,Zm,At,<- hn];exact aA
 .rcases Dh.1 hy with h | h
  .exact l y (hF.ok y h).1 (hF.ok y h).2
  .have:y=x:=by simpa using h
   subst this;exact l y hx hp
 .have ao:=A5 ad j.size;have r:=A5 ac ao;have b1:=(j.mono (A5 ac ad)).drew;have b2:=b1.grown z r (fun k e=>by cases e;exact an);have b3:BW lo w ((m.alloc (.cells x.cells 69 (0,0))).drew):=(b2.alloc (A5 r aC) _).drew
  have b4:=b3.grown p (by
   show lo<=(m.alloc (.cells x.cells 69 (0,0))).heap.size
   rw [I2];omega) (fun k e=>A5 ac (hF.row.lt k e).1)
  exact b4.setCell am _
def Amf (w:WD) (fb mb base lo:Nat) (nv:VL) (xs:List aq) (x:aq) (hF:jk w fb mb base nv xs) (hx:x.ok w) (hp:K4 w x) (hn:x.name.size<=maxLen) (bI:x.pn<=4294967296) (bc:lo<=fb) (bd:lo<=mb) (aL:lo<=base) (aJ:base<=w.heap.size) :
  Calls prog 42 #[.pointer (some ⟨fb,0,none⟩),x.val] w fun e w'=>∃ bn,e=.returned (.int .i64 (Db (xs.map aq.name) xs.length x.name x.parts))/\jk w' fb mb base bn (if Db (xs.map aq.name) xs.length x.name x.parts=0 then xs++[x] else xs)/\Jr fb mb base lo w w':=by
 obtain ⟨i9,bg,bK,bx,bA⟩:=Cb V3;obtain ⟨r,cp,po,pn,pc,o⟩:=x;obtain ⟨W1,aT⟩:=Ex (w.alloc (.cells (⟨r,cp,po,pn,pc,o⟩:aq).cells 69 (0,0)));have aE:BW w.heap.size w W1:=by rw [aT];exact Bn
 have aH:=hF.below aE;have aQ:W1.heap[w.heap.size]?=some (.cells (⟨r,cp,po,pn,pc,o⟩:aq).cells 69 (0,0)):=by rw [aT];exact Ah _ _
 have am:=aH.below ((Below.refl _ _).drew);obtain ⟨c,a9,a6⟩:=Amd am r hn;obtain ⟨b,hb⟩:=Ex (has (K3 (xs.map aq.name)) (By r));rw [<- hb] at a9;have f0:=Aa aH.head 0;have f1:=Aa aH.head 1;have y0:=Aa aQ 0;have y5:=Aa aQ 5;simp at f0 f1 y0 y5;replace ⟨hF,hx,hp,aE,aH,aQ,am,a6⟩:=H8 hF hx hp aE aH aQ am a6;replace hb:=Hh hb;have a5:=Hh aT;clear aT;go_enter func42,ntmps42;go_wp2_with fail;rw [<- a5.out];go_step3;go_upto_region 1 with fail;go_cut [5,6] (fun cv bv wx=>ye W1 c b cv bv wx)
 case first=>
  go_region_with (fail)
  all_goals
   go_wp2_with fail;go_meet;exact ⟨rfl,rfl,rfl⟩
 case rest=>
  obtain ⟨rfl,rfl,rfl⟩:=hcut
  cases b with
  | true=>
   have y:Db (xs.map aq.name) xs.length r o=51:=(by unfold Db;rw [Ad (by rw [N3];exact (Adn _ _).1 hb.symm)]);have f:=aE.drew;have t:=aJ;replace ⟨y,f,t⟩:=H3 y f t;go_wp2
   try rw [Im]
   go_ret;exact ⟨nv,by rw [y.out];rfl,by rw [y.out];exact am.out,Jr.ki f.out (A5 aL t.out)⟩
  | false=>
   have aF:¬ Gi (xs.map aq.name) r=true:=fun h=>by
    have:=(Adn _ _).2 (N3.1 h);rw [<- hb.out] at this;cases this
   obtain ⟨W2,av⟩:=Ex (W1.drew);have m:jk W2 fb mb base nv xs:=(by rw [av];exact am.out);have aR:W2.heap[w.heap.size]?=some (.cells (⟨r,cp,po,pn,pc,o⟩:aq).cells 69 (0,0)):=(by rw [av];exact aQ.out);have ao:D3 W2 po pn o:=(by rw [av];exact (hx.low (aE.drew)).parts);clear f0 f1 y0 y5 a9;have f0:=Aa m.head 0;have f1:=Aa m.head 1;have y0:=Aa aR 0;have y5:=Aa aR 5;simp at f0 f1 y0 y5;obtain ⟨tb,ap⟩:=Ex (L2 o);have aG:=ao.len;have bw:pn<=pc:=hx.lg;rw [<- av];replace ⟨aF,m,aR,ao,av,ap,aG⟩:=H7 aF m aR ao av ap aG;go_upto_block 0 with fail;go_step3;go_upto_block 0 with fail;go_cut [7,8,9,11] from 26 to 44 (fun tv _ _ _ wx=>yj W2 tb tv wx)
   case first=>
    go_wp2;go_loopw [7,8,9,11,26] (fun tv _ _ _ i wr=>∃ k:Nat,tv=.bool false/\i=.int .i64 k/\k<=pn/\wr=W2/\Hid (¬ Tk o k)) (fun _ _ _ _ i _=>pn-(intOf i).toNat)
    case atStart=>exact ⟨0,rfl,rfl,Aq _,rfl,fun ⟨i,j,s,h1,h2,_⟩=>absurd h2 (Mt _)⟩
    case round=>
     obtain ⟨k,rfl,rfl,hk,rfl,hD⟩:=hrel;by_cases a8:k<pn
     .have be:(k:Int)<pn:=(by omega);have bH:(0:Int)<=(k:Int):=(by omega);obtain ⟨p,aP⟩:=ao.get a8;obtain ⟨b',bb,rfl,bC,bE⟩:=ao.cell k p aP;have bJ:=fun w=>V9 S5 bg ⟨b',bb,none⟩ pn pc k k rfl (by omega) w;replace aP:=Hh aP;go_wp2;go_loopw [7,11,36] (fun tv _ i wq=>∃ j:Nat,tv=.bool false/\i=.int .i64 j/\j<=k/\wq=wr/\Hid (∀ j',j'<j->o[j']?≠some p)) (fun _ _ i _=>k-(intOf i).toNat)
      case atStart=>exact ⟨0,rfl,rfl,Aq _,rfl,fun j' h=>absurd h (Mt _)⟩
      case round=>
       obtain ⟨j,rfl,rfl,hj,rfl,hN⟩:=hrel;by_cases bi:j<k
       .have bf:(j:Int)<k:=(by omega);have bG:(0:Int)<=(j:Int):=(by omega);obtain ⟨q,aD⟩:=ao.get (i:=j) (by omega);obtain ⟨b2,bB,e2,bD,bF⟩:=ao.cell j q aD;cases e2;by_cases an:p=q
        .have d:(p.toList == q.toList)=true:=(by rw [an];simp);have ht:tb=true:=(by rw [ap.out,Wa];exact ⟨k,j,p,bi,by rw [aG.out];exact a8,aP.out,by rw [an];exact aD⟩);replace ⟨aD,an,ht⟩:=H3 aD an ht;go_wp2;go_meet
         case rel=>exact ⟨by rw [ht.out],rfl⟩
        .have d:(p.toList == q.toList)=false:=by simp only [Bl];intro e;rw [Lib.toList_data,Lib.toList_data] at e;exact an (O4 e)
         have aY:∀ j',j'<j+1->o[j']?≠some p:=fun j' h e=>by
          by_cases c:j'=j
          .subst c;rw [aD] at e;exact an (Lx e).symm
          .exact hN.out j' (by omega) e
         replace ⟨aD,an,aY⟩:=H3 aD an aY;go_wp2;go_roundw
         case rel=>exact ⟨j+1,rfl,by go_num,by omega,trivial,aY.out⟩
         case measure=>simp [intOf];omega
       .have bf:¬ (j:Int)<k:=by omega
        have aV:¬ Tk o (k+1):=fun ⟨i,j',s,h1,h2,h3,h4⟩=>by
         by_cases c:i=k
         .subst c;rw [aP.out] at h3;exact hN.out j' (by omega) (by rw [h4,<- h3])
         .exact hD.out ⟨i,j',s,h1,by omega,h3,h4⟩
        replace aV:=Hh aV;go_wp2;go_roundw
        case rel=>exact ⟨k+1,rfl,by go_num,by omega,trivial,aV.out⟩
        case measure=>simp [intOf];omega
     .have be:¬ (k:Int)<pn:=(by omega);have a0:k=pn:=(by omega);have ht:tb=false:=(by rw [ap.out,Ij];intro c;exact hD.out (by rw [a0,<- aG.out];exact (Wa o).1 c));replace ⟨ht,a0⟩:=H2 ht a0;go_wp2;go_meet
      case rel=>exact ⟨by rw [ht.out],rfl⟩
   case rest=>
    obtain ⟨rfl,rfl⟩:=hcut;have f:BW w.heap.size w wc:=(by rw [av.out];exact aE.drew);have t:=aJ
    cases tb with
    | true=>
     have y:Db (xs.map aq.name) xs.length r o=51:=(by unfold Db;rw [Ac aF.out,Ad ap.symm]);replace ⟨y,f,t⟩:=H3 y f t;go_wp2
     try rw [Im]
     go_ret;exact ⟨nv,by rw [y.out];rfl,by rw [y.out];exact m.out,Jr.ki f.out (A5 aL t.out)⟩
    | false=>
     have bk:∀ ty w,(Builtin.len_ #[52] ty #[nv]).run prog w=.ok (.int .i64 (xs.length:Int)) w:=fun ty w=>by
      rcases Joins.ownsRow_forms m.row with ⟨rfl,h0⟩ | ⟨g,cap,rfl⟩
      .rw [h0];simp [go_sem,Ow]
      .simp [go_sem,Ow]
     obtain ⟨n,z⟩:=Ex (xs.length);rw [<- z] at bk;replace ⟨z,f,t⟩:=H3 z f t;by_cases q1:16<=n
     .have d1:decide ((16:Int)<=n)=true:=Av (by omega);have y:Db (xs.map aq.name) xs.length r o=2:=(by unfold Db;rw [Ac aF.out,Ac (by rw [<- ap.out];simp),Ad (.inl (by rw [<- z.out];exact q1))]);replace y:=Hh y;go_wp2
      try rw [Im]
      go_ret;exact ⟨nv,by rw [y.out];rfl,by rw [y.out];exact m.out,Jr.ki f.out (A5 aL t.out)⟩
     have d1:decide ((16:Int)<=n)=false:=Ax (by omega);by_cases q2:8<pn
     .have d2:decide ((8:Int)<pn)=true:=Av (by omega);have y:Db (xs.map aq.name) xs.length r o=2:=(by unfold Db;rw [Ac aF.out,Ac (by rw [<- ap.out];simp),Ad (.inr (by rw [aG.out];exact q2))]);replace y:=Hh y;go_wp2
      try rw [Im]
      go_ret;exact ⟨nv,by rw [y.out];rfl,by rw [y.out];exact m.out,Jr.ki f.out (A5 aL t.out)⟩
     have d2:decide ((8:Int)<pn)=false:=Ax (by omega);have y:Db (xs.map aq.name) xs.length r o=0:=(by unfold Db;rw [Ac aF.out,Ac (by rw [<- ap.out];simp),Ac (by rw [<- z.out,aG.out];omega)]);replace y:=Hh y;have aO:wc.drew.ownsMap prog 9 (plainElem (H:=Unit) prog 3) mb n (K3 (xs.map aq.name)):=(by rw [z.out];exact m.map);have aM:n<maxLen:=(by have:maxLen=9223372036854775807:=rfl;omega);have aK:keyOf prog 9 (.string r)=some (By r):=U5 Eg hn;have a1:(Lit.int .i64 (n:Int)).wf=true:=WalkArith.wf_i64 (by omega);replace ⟨aO,aM,aK,a1⟩:=H4 aO aM aK a1;go_upto_region 19 with fail;go_still_tail 11,(by kernel_rfl);change wpList _ _ _ _ _ wc.drew;go_upto_region 20 with (at_mapUpdate;refine Ys _ rfl _ _ _ 99 rfl 9 3 (string_keyed Eg) underlying99 _ mb n _ rfl aO.out aM.out _ _ (By r) rfl rfl aK.out _ [] (plainElem_int D2 a1.out) ?_;intro w5 aB v;replace ⟨aB,v⟩:=H2 aB v)
     have k5:∀ (k:Nat) (c:Array VL) (T:TypeId) (fr:Nat×Nat),wc.heap[k]?=some (.cells c T fr)->w5.heap[k]?=some (.cells c T fr):=fun k c T fr h=>
      (v.block k (Ab h) (fun e=>Wb m.out h (by cases e;rfl))).trans h
     have h5:=k5 _ _ _ _ m.head;have al:=k5 _ _ _ _ aR.out
     have ad:w5.ownsRow base 69 6 nv n (Au aq.cells xs):=by
      refine ⟨by rw [z.out];exact m.row.1,?_⟩;rcases m.row.2 with ⟨e1,e2⟩ | ⟨g,cap,a4,hv,hg,hh,hr⟩
      .exact .inl ⟨e1,by rw [z.out];exact e2⟩
      .exact .inr ⟨g,cap,a4,by rw [z.out];exact hv,hg,k5 _ _ _ _ hh,by rw [z.out];exact hr⟩
     clear f0 f1 y0 y5;have f0:=Aa h5 0;have y0:=Aa al 0;have y1:=Aa al 1;have y2:=Aa al 2;have y3:=Aa al 3;have y4:=Aa al 4;have y5:=Aa al 5;simp at f0 y0 y1 y2 y3 y4 y5;have bL:=Ab h5;have bM:=Ab al;obtain ⟨bl,a7,ba,a2,a3⟩:=Cb Adp;have aC:((w5.alloc (.cells (⟨r,cp,po,pn,pc,o⟩:aq).cells 69 (0,0))).drew).ownsRow base 69 6 nv n (Au aq.cells xs):=ad.alloc (.cells (⟨r,cp,po,pn,pc,o⟩:aq).cells 69 (0,0));have aA:∀ j u,(⟨r,cp,po,pn,pc,o⟩:aq).cells.toList[j]?=some u->((w5.alloc (.cells (⟨r,cp,po,pn,pc,o⟩:aq).cells 69 (0,0))).drew).cell? ((⟨w5.heap.size,0,none⟩:Addr).add j)=some u:=Adr w5 (⟨r,cp,po,pn,pc,o⟩:aq);have aN:=Adq (⟨r,cp,po,pn,pc,o⟩:aq);have aU:=G4 (n:=n) (by omega);have aZ:(n+1)*72<=140737488355328:=(by omega);have aI:base<=((w5.alloc (.cells (⟨r,cp,po,pn,pc,o⟩:aq).cells 69 (0,0))).drew).heap.size:=by have:=t.out;have:=f.size;have:wc.drew.heap.size=wc.heap.size:=rfl;show base<=(w5.alloc (.cells (⟨r,cp,po,pn,pc,o⟩:aq).cells 69 (0,0))).heap.size;rw [I2];omega
     have ac:∀ w9:WD,((w5.alloc (.cells (⟨r,cp,po,pn,pc,o⟩:aq).cells 69 (0,0))).drew).grownBy w9 nv.ownBlock->w9.heap[fb]?=some (.cells #[nv,.map (some mb)] 101 (0,0)):=fun w9 hg=>by
      refine (hg.block fb (by have:=Ab h5;show fb<(w5.alloc (.cells (⟨r,cp,po,pn,pc,o⟩:aq).cells 69 (0,0))).heap.size;rw [I2];omega) (fun e=>?_)).trans (Aj (.cells (⟨r,cp,po,pn,pc,o⟩:aq).cells 69 (0,0)) h5);obtain ⟨a4,hc⟩:=Zo ad e.symm;rw [h5] at hc;simp at hc
     replace ⟨h5,al,ad,aC,aA,aN,aU,aZ⟩:=H8 h5 al ad aC aA aN aU aZ;replace ⟨aI,ac,k5⟩:=H3 aI ac k5;simp only [Act.put];go_cut [] (fun wx=>yg base fb w5 (⟨r,cp,po,pn,pc,o⟩:aq) nv n xs wx)
     case first=>
      go_region_law
       (first
         | (refine Tl (by rfl) _ _ _ (by rfl) base 69 bl _ 6 72 Ow a7 ba a2 a3 rfl Ado nv n _ (by rfl) aC.out ⟨w5.heap.size,0,none⟩ 1 (⟨r,cp,po,pn,pc,o⟩:aq).cells.toList (by rfl) (by rfl) aA.out aN.out aU.out aZ.out aI.out ?_;intro g9 bs w9 l a;have q9:=ac w9 a;have f9:=Aa q9 0;have z9:=Af q9 0;simp at f9
            replace ⟨q9,l,a⟩:=H3 q9 l a))
      all_goals
       go_wp2_with fail;go_meet;exact ⟨_,w9,l.out,a.out,rfl⟩
     case rest=>
      obtain ⟨v1,w9,l,a,rfl⟩:=hcut.ex;clear hcut
      have aS:=Ame m.out z.out bc bd aL v.out aB.out a l (ac w9 a) (show aq.ok wc ⟨r,cp,po,pn,pc,o⟩ from ⟨ao.out,hx.lg⟩) (fun b bo e=>by
       obtain ⟨c,hc⟩:=hp b bo e
       exact ⟨c,Ae f.out hc (Ab hc)⟩) t.out f.out
      have aW:=aS.1;have aX:=aS.2;replace ⟨aW,aX,l,a,aS⟩:=H5 aW aX l a aS;go_wp2
      try rw [Im]
      go_ret
      all_goals first
       | exact ⟨rfl,⟨v1,aW.out⟩,aX.out⟩
       | exact absurd y.out (by assumption)
def Am1  {c d base:Nat} {a:VL} {xs:List aq} (h:jk w c d base a xs):∀ b w,(Builtin.len_ #[52] b #[a]).run prog w=.ok (.int .i64 (xs.length:Int)) w:=fun b w=>by
 rcases Joins.ownsRow_forms h.row with ⟨rfl,h0⟩ | ⟨g,cap,rfl⟩
 .rw [h0];simp [go_sem,Ow]
 .simp [go_sem,Ow]
def Zt (w:WD) (a d base:Nat) (f:VL) (xs:List aq) (hF:jk w a d base f xs):Calls prog 43 #[.pointer (some ⟨a,0,none⟩)] w fun e w'=>e=.returned (.int .i64 (xs.length:Int))/\w'=w:=by
 have c:=Am1 hF;have b:=Aa hF.head 0;simp at b;go_enter func43,ntmps43;go_wp2;go_ret;exact ⟨rfl,rfl⟩
