/- Part. -/
import Derived.Test.YtbjicljfjkdeeaaGreatDoorQ20
import Derived.Test.YtbjicljfjkdeeaaGreatDoorQ10
set_option maxRecDepth 100000
set_option maxHeartbeats 16000000
set_option linter.unusedVariables false
set_option linter.unusedSimpArgs false
namespace Go.Proofs.YtbjicljfjkdeeaaGreatDoor
open Go.Proofs.Tryz Go.RowKit
def LC (k:Nat):Bool:=decide (k=0\/k=5\/k=7)
def Tbl (w:World):Prop:=∀k:Nat,k<8->w.cell? ⟨1,k*2,none⟩=some (.bool (!decide (k=2\/k=4)))/\w.cell? ⟨1,k*2+1,none⟩=some (.bool (LC k))
theorem Tbl.stays {w W:World} (h:Tbl w) (z:Mm w W):Tbl W:=fun k hk=>⟨aa z (h k hk).1,aa z (h k hk).2⟩
def tblV (k:Nat):List Value:=[.bool (!decide (k=2\/k=4)),.bool (LC k)]
def glv (m:Int):Nat->Option (List Tr)
 | 0=>some (((List.range 11).flatMap Ga).map .at)
 | 1=>some (((List.range 8).flatMap tblV).map .at)
 | 2=>some [.at (Mk m)]
 | _=>none
def lkT:List (FuncId × List Tr × Tr)->FuncId->List Tr->Option Tr
 | [],_,_=>none
 | e::T,f,ts=>match Nat.beq e.1 f&&Tr.sames ts e.2.1 with
  | true=>some e.2.2
  | false=>lkT T f ts
def ctn (a b:ByteArray):Option Tr:=if a.data.toList.length<4294967281 then some (.at (.bool (Lib.contains a.data.toList b.data.toList))) else none
def orT (T:List (FuncId × List Tr × Tr)) (f:FuncId) (ts:List Tr):Option Tr :=
 match Nat.beq f 219 with
 | true=>match ts with|[.at (.string a),.at (.string b)]=>ctn a b|_=>none
 | false=>lkT T f ts
def hnt (f:FuncId):Bool:=[131,200,152,121,118,23,137,210,254,301].contains f
def isR:Option Tr->Tr->Bool
 | some x,y=>Tr.same x y
 | none,_=>false
def gh (m:Int) (T:List (FuncId × List Tr × Tr)):Prop:=∀e∈T,PuC prog (glv m) e.1 e.2.1 e.2.2
theorem Cw {f:FuncId} {ts:List Tr} {r:Tr}:∀{T:List (FuncId × List Tr × Tr)},lkT T f ts=some r->(f,ts,r)∈T
 | [],h=>by cases h
 | e::T,h=>by
  rw[lkT]at h
  split at h
  ·rename_i z
   rw[My]at z
   cases h
   have I:=Nat.eq_of_beq_eq_true z.1;have G:=Tr.sames_ok _ _ z.2;rw[<-I,G];exact Mz
  ·exact MD _ (Cw h)
theorem KD {m:Int} {a b:ByteArray} {r:Tr} (h:ctn a b=some r):PuC prog (glv m) 219 [.at (.string a),.at (.string b)] r:=by
 unfold ctn at h
 split at h
 ·rename_i O
  cases h
  intro F w vs I Z;obtain⟨G,z⟩:=I
  match vs,G,z with
  | [x,y],_,z =>
   cases z 0 _ _ rfl rfl
   cases z 1 _ _ rfl rfl
   have hm:=Z 2 _ rfl
   cases hm with
   | elp _ _ _ g _ hc hr =>
    have h0:=(hc 0 jS).1;have J:=hr 0 _ rfl;generalize g 0=u at h0 J
    cases J
    refine (Any.strings_Contains { Tryz.laysM144 with } a b m w (jQ O) h0).mono ?_;rintro e w' ⟨rfl,rfl⟩;exact⟨_,F,rfl,Mr _ _,fun _ _=>rfl,.at _⟩
 ·cases h
theorem KP {m:Int} {T:List (FuncId × List Tr × Tr)} (z:gh m T):gB prog (glv m) (orT T):=by
 intro f ts r h;unfold orT at h
 split at h
 ·rename_i hf
  obtain rfl:=Nat.eq_of_beq_eq_true hf
  split at h
  ·exact KD h
  ·cases h
 ·exact z _ (Cw h)
theorem ew {m:Int} {T L:List (FuncId × List Tr × Tr)} (G:gh m T) (h:(L.all fun e=>isR (evF prog (glv m) (orT T) hnt 600 e.1 e.2.1) e.2.2)=true):gh m (L++T):=by
 intro e he;rcases List.mem_append.1 he with he|he
 ·have h:=List.all_eq_true.1 h e he
  cases z:evF prog (glv m) (orT T) hnt 600 e.1 e.2.1 with
  | none=>rw[z]at h;cases h
  | some x =>
   rw[z]at h;rw[<-Tr.same_ok _ _ h];exact Jl kr (KP G) z
 ·exact G e he
def xI (n:Int):Tr:=.at (Mk n)
def xB (b:Bool):Tr:=.at (.bool b)
def xS (l:List UInt8):Tr:=.at (.string ⟨⟨l⟩⟩)
def xN:Tr:=.at (.slice none 0 0)
def aw1:Tr:=.agg [xI 0,xN,xI 0,xI 0,xI 0,xI 1,xI 1,xS []]
def aw2:Tr:=.agg [xI 0,xN,xI 0,xI 1,xI 0,xI 0,xI 0,xN,xI 0,xI 0,xI 0,xI 1,xI 1,xS []]
def aw3:Tr:=.lst true [.agg [xI 0,xN,xI 0,xI 0,xI 0,xI 0,xI 0,xN,xI 0,xI 0,xI 0,xI 1,xI 1,xS []],aw2]
def aw4:Tr:=.agg [xI 1,aw3,xI 0,xI 0,xI 0,xI 0,xI 0,xN,xI 0,xI 0,xI 0,xI 0,xI 0,xS []]
def aw5:Tr:=.agg [xI 0,xI 1,xS []]
def aw6:Tr:=.agg [xI 0,xI 5,xS []]
def aw7:Tr:=.agg [xI 0,xI 0,xI 0,xI 1,.lst false [aw5,aw6]]
def aw8:Tr:=.agg [xI 0,xI 2,xS []]
def aw9:Tr:=.agg [xI 0,xI 6,xS []]
def aw10:Tr:=.agg [xI 0,xI 1,xI 0,xI 2,.lst false [aw8,aw9]]
def aw11:Tr:=.agg [xI 0,xI 7,xS []]
def aw12:Tr:=.agg [xI 0,xI 2,xI 0,xI 3,.lst false [aw5,aw11]]
def aw13:Tr:=.agg [xI 0,xI 8,xS []]
def aw14:Tr:=.agg [xI 0,xI 3,xI 0,xI 4,.lst false [aw8,aw13]]
def aw15:Tr:=.lst false [aw7,aw10,aw12,aw14]
def mR:Tr:=.elp [aw15,xB false]
def xC:Tr:=.lst false [.agg [xI 0,xI 0]]
def Lm:Tr:=.lst true [.agg [xI 1,xI 1]]
def aw19:Tr:=.lst true [.agg [xI 1,xI 2]]
def Lo:Tr:=.lst true [.agg [xI 1,xI 3]]
def KG:Tr:=.lst false [.agg [xI 0,xI 1]]
def aw22:Tr:=.lst false [aw7,aw12]
def IF:Tr:=.elp [aw22,xB false]
def aw24:Tr:=.lst false [aw10,aw14]
def J3:Tr:=.elp [aw24,xB false]
def aw26:Tr:=.lst false [.agg [xI 0,xI 2]]
def La:Tr:=.lst true [.agg [xS [116],.lst true [.agg [xS [107],xI 0],.agg [xS [120],xI 0]]]]
def KZ:Tr:=.lst true [.agg [xS [97],xI 0],.agg [xS [98],xI 0]]
def aw29:Tr:=.lst true [.agg [xI 6,.lst true [.agg [xI 1,xN,xI 1,xI 1,xI 0,xI 0,xI 0,xS []],.agg [xI 1,xN,xI 0,xI 1,xI 0,xI 0,xI 0,xS []]],xI 0,xI 0,xI 0,xI 0,xI 0,xS []]]
def Hb:Tr:=.agg [xS [113],KZ,.lst true [xI 0],xI 1,aw3,xI 0,xI 0,xI 0,xI 0,xI 0,xN,xI 0,xI 0,xI 0,xI 0,xI 0,xS [],aw29]
def KV:Tr:=.agg [xI 0,xI 1,xI 0,xI 0]
def aw32:Tr:=.agg [xI 1,xI 3,xI 0,xI 2]
def FM:Tr:=.lst false [KV,aw32]
def aw34:Tr:=.agg [xI 0,xI 2,xI 0,xI 1]
def KQ:Tr:=.agg [xI 1,xI 4,xI 0,xI 3]
def Im:Tr:=.lst false [aw34,KQ]
def GR:Tr:=.lst false [.agg [xI 0,xI 0,xI 0,xI 1,.lst true [aw5,aw6]],.agg [xI 0,xI 1,xI 0,xI 2,.lst true [aw8,aw9]],.agg [xI 0,xI 2,xI 0,xI 3,.lst true [aw5,aw11]],.agg [xI 0,xI 3,xI 0,xI 4,.lst true [aw8,aw13]]]
def aw38:Tr:=.tup [.lst false [aw8],xI 0]
def aw39:Tr:=.tup [.lst false [.agg [.lst false [KV,.agg [xI 1,xI 2,xI 0,xI 1]]],.agg [FM],.agg [.lst false [KV,KQ]],.agg [.lst false [aw34,aw32]],.agg [Im],.agg [.lst false [.agg [xI 0,xI 3,xI 0,xI 2],KQ]]],xI 0]
def tn0:List (FuncId × List Tr × Tr):=[]
theorem Lf (m:Int):gh m tn0:=fun _ h=>by cases h
def tb1:List (FuncId × List Tr × Tr):=[(117,[aw1],xI 0),(41,[aw4],xI 0)]
def tn1:List (FuncId × List Tr × Tr):=tb1++tn0
theorem KC (m:Int):gh m tn1:=ew (Lf m) kr
def tb2:List (FuncId × List Tr × Tr):=[(51,[mR,aw2,xC,xI 1],.lst false [Lm,aw19,Lo]),(51,[mR,aw2,KG,xI 2],.lst false [aw19,Lo]),(51,[IF,aw2,xC,xI 1],.lst false [Lm]),(51,[J3,aw2,xC,xI 1],.lst false [Lm]),(51,[mR,aw2,aw26,xI 3],.lst false [Lo]),(199,[IF,aw1,xN,xI 0,xI 0],xB true),(199,[IF,aw1,xN,xI 0,xI 1],xB true),(199,[J3,aw1,xN,xI 0,xI 0],xB true),(199,[J3,aw1,xN,xI 0,xI 1],xB true),(199,[mR,aw1,xN,xI 0,xI 0],xB true),(199,[mR,aw1,xN,xI 0,xI 1],xB true),(199,[mR,aw1,xN,xI 0,xI 2],xB true),(199,[mR,aw1,xN,xI 0,xI 3],xB true),(199,[IF,aw1,xC,xI 1,xI 1],xB true),(199,[J3,aw1,xC,xI 1,xI 1],xB true),(199,[mR,aw1,xC,xI 1,xI 1],xB true),(199,[mR,aw1,xC,xI 1,xI 2],xB true),(199,[mR,aw1,xC,xI 1,xI 3],xB true),(199,[mR,aw1,KG,xI 1,xI 2],xB true),(199,[mR,aw1,KG,xI 1,xI 3],xB true),(199,[mR,aw1,aw26,xI 1,xI 3],xB true)]
def tn2:List (FuncId × List Tr × Tr):=tb2++tn1
theorem Mg (m:Int):gh m tn2:=ew (KC m) kr
def tb3:List (FuncId × List Tr × Tr):=[(106,[La,KZ,aw4],.tup [xI 0,xI 0])]
def tn3:List (FuncId × List Tr × Tr):=tb3++tn2
theorem KE (m:Int):gh m tn3:=ew (Mg m) kr
def tb4:List (FuncId × List Tr × Tr):=[(61,[La,Hb],xI 0)]
def tn4:List (FuncId × List Tr × Tr):=tb4++tn3
theorem LO (m:Int):gh m tn4:=ew (KE m) kr
def tb5:List (FuncId × List Tr × Tr):=[(9,[aw4,aw22],.tup [.lst false [.agg [FM]],xI 0]),(9,[aw4,aw24],.tup [.lst false [.agg [Im]],xI 0])]
def tn5:List (FuncId × List Tr × Tr):=tb5++tn4
theorem LE (m:Int):gh m tn5:=ew (LO m) kr
def tb6:List (FuncId × List Tr × Tr):=[(6,[Hb,GR],.tup [.lst false [.agg [FM],.agg [Im]],xI 0])]
def tn6:List (FuncId × List Tr × Tr):=tb6++tn5
theorem L9 (m:Int):gh m tn6:=ew (LE m) kr
def tb7:List (FuncId × List Tr × Tr):=[(40,[GR,Hb,.agg [FM]],aw38)]
def tn7:List (FuncId × List Tr × Tr):=tb7++tn6
theorem LG (m:Int):gh m tn7:=ew (L9 m) kr
def tb8:List (FuncId × List Tr × Tr):=[(40,[GR,Hb,.agg [Im]],aw38)]
def tn8:List (FuncId × List Tr × Tr):=tb8++tn7
theorem KU (m:Int):gh m tn8:=ew (LG m) kr
def tb9:List (FuncId × List Tr × Tr):=[(21,[.agg [La,.lst true [Hb]],GR],.tup [.lst false [.agg [xI 0,FM,.lst false [aw8]],.agg [xI 0,Im,.lst false [aw8]]],xI 0])]
def tn9:List (FuncId × List Tr × Tr):=tb9++tn8
theorem KO (m:Int):gh m tn9:=ew (KU m) kr
def tb10:List (FuncId × List Tr × Tr):=[(9,[aw4,aw15],aw39)]
def tn10:List (FuncId × List Tr × Tr):=tb10++tn9
theorem IW (m:Int):gh m tn10:=ew (KO m) kr
def tb11:List (FuncId × List Tr × Tr):=[(6,[.agg [xS [113],KZ,xN,xI 1,aw3,xI 0,xI 0,xI 0,xI 0,xI 0,xN,xI 0,xI 0,xI 0,xI 0,xI 0,xS [],aw29],GR],aw39)]
def tn11:List (FuncId × List Tr × Tr):=tb11++tn10
theorem IY (m:Int):gh m tn11:=ew (IW m) kr
def tb12:List (FuncId × List Tr × Tr):=[(5,[],xB true)]
def tn12:List (FuncId × List Tr × Tr):=tb12++tn11
theorem Jq (m:Int):gh m tn12:=ew (IY m) kr
theorem pF {α:Type} {k:Nat} {f:Nat->List α}:∀(n s:Nat),(∀i,i<s+n->(f i).length=k)->∀i r,i<n->r<k->((List.range' s n).flatMap f)[i*k+r]?=(f (s+i))[r]?
 | 0,_,_,_,_,hi,_=>by omega
 | n+1,s,h,i,r,hi,hr=>by
  rw[List.range'_succ,MM];have z:=h s om
  cases i with
  | zero=>rw[MQ om];simp
  | succ i =>
   have e:(i+1)*k+r=k+(i*k+r):=by rw[OF];omega
   rw[M7 om,e,z,Nat.add_sub_cancel_left,pF n (s+1) (fun j G=>h j om) i r om hr,show s+1+i=s+(i+1) by omega]
theorem yK {F:Nat->Nat} {w:World} {g:Nat} {cs:List Value} (I:∀v∈cs,v.oneCell'=true) (hF:cs.length<=F g) (h:∀j v,cs[j]?=some v->w.cell? ⟨g,j,none⟩=some v):Rp F w (.elp (cs.map .at)) (.pointer (some ⟨g,0,none⟩)):=by
 refine .elp _ g 0 (fun j=>(cs[j]?).getD undef) (fun t z=>?_) (fun j G=>?_) (fun j t z=>?_)
 ·obtain⟨v,J,rfl⟩:=List.mem_map.1 z;exact I v J
 ·rw[MB]at G;rw[MC,Mq G];exact⟨h j _ (Mq G),by omega⟩
 ·rw[MA]at z
  cases G:cs[j]? with
  | none=>rw[G]at z;cases z
  | some v=>rw[G]at z;cases z;exact .at _
theorem tA {F:Nat->Nat} {w:World} {g n k:Nat} {f:Nat->List Value} (hk:0<k) (Z:∀i,i<n->(f i).length=k) (z:((List.range n).flatMap f).all (·.oneCell')=true) (hlen:((List.range n).flatMap f).length=n*k) (hF:n*k<=F g)
  (h:∀i,i<n->∀r v,(f i)[r]?=some v->w.cell? ⟨g,i*k+r,none⟩=some v):Rp F w (.elp (((List.range n).flatMap f).map .at)) (.pointer (some ⟨g,0,none⟩)):=by
 refine yK (fun v hv=>List.all_eq_true.1 z v hv) om fun j v J=>?_
 have O:=(List.getElem?_eq_some_iff.1 J).1;have hm:=Nat.mod_lt j hk;have G:j / k<n:=by rw[Nat.div_lt_iff_lt_mul hk];omega
 have e:j / k*k+j%k=j:=by rw[Nat.mul_comm];exact Nat.div_add_mod j k
 have I:=pF (f:=f) (k:=k) n 0 (fun i hi=>Z i om) (j / k) (j%k) G hm;rw[e,<-List.range_eq_range',J,MC]at I;have:=h (j / k) G (j%k) v I.symm
 rwa [e]at this
theorem wv (w:World) (hS:Shp w) (Z:Tbl w) (hL:Lx w):Mn 5 #[] w (.bool true):=by
 obtain⟨m,hm⟩:=hL.2;have J:=Jq m (5,[],xB true) (OW _ Mz);refine (J (fun _=>66) w [] ⟨rfl,fun i t v h=>by simp at h⟩ ?_).mono ?_
 ·intro g cs G;unfold glv at G
  split at G
  ·cases G
   exact tA (n:=11) (k:=6) om dc (by decide +kernel) (by decide +kernel) om fun i I r v z=>hS i I r v z
  ·cases G
   refine tA (n:=8) (k:=2) om (fun _ _=>rfl) (by decide +kernel) (by decide +kernel) om fun i I r v z=>?_
   match r,z with
   | 0,z=>cases z;exact (Z i I).1
   | 1,z=>cases z;exact (Z i I).2
  ·cases G
   exact yK (cs:=[Mk m]) (by simp[Value.oneCell']) jS fun j v O=>by
    match j,O with
    | 0,O=>cases O;exact hm
  ·cases G
 ·rintro e W ⟨v,F',rfl,hb,-,hr⟩
  cases hr
  exact⟨rfl,hb⟩
end Go.Proofs.YtbjicljfjkdeeaaGreatDoor
