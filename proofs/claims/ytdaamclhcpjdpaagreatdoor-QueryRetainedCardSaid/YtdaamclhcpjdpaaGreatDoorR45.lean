/- Part 45 of rules for walks through the code of a program, and of such walks; what each part proves is said by its theorems. -/
import Derived.Test.YtdaamclhcpjdpaaGreatDoorR22
import Derived.Test.YtdaamclhcpjdpaaGreatDoorR44
set_option linter.unusedVariables false
set_option linter.unusedSimpArgs false
noncomputable section
set_option maxRecDepth 100000
set_option maxHeartbeats 4000000
namespace Go.Ev.Rp
open Go Go.Ev.Pp
def WA(l v:Nat):Bool:=Nat.beq (pack (vD l v)) v
theorem Qy:∀(l v:Nat),(vD l v).length=l
 |0,_=>rfl
 |l+1,v=>by simp only[vD,gr,Qy l]
theorem acQ{l v:Nat}(h:WA l v=true):aq (vD l v)= .s l v:=by
 unfold aq;rw[Qy,cq h]
mutual
def rj:Ty→DC→Bool
 |.i k lo hi,.i A z=>decide (k=A)&&decide (lo≤z)&&decide (z≤hi)
 |.b,.b _=>true
 |.s n,.s l v=>Nat.ble l n&&WA l v
 |.l n row,.sl rows=>Nat.ble rows.length n&&rows.all fun r=>uh row r
 |.l _ _,.nil=>true
 |.x,_=>true
 |_,_=>false
def uh:List Ty→List DC→Bool
 |[],[]=>true
 |t::z,d::A=>rj t d&&uh z A
 |_,_=>false
end
mutual
theorem Ht:∀{t:Ty}{d:DC},rj t d=true→t.ok d
 |.i k lo hi,d,h=>by
  cases d<;>simp only[rj,cS,eK,fW] at h
  obtain⟨⟨rfl,z⟩,h2⟩:=h;exact dH z h2
 |.b,d,h=>by
  cases d<;>simp only[rj,fW] at h
  exact dY
 |.s n,d,h=>by
  cases d<;>simp only[rj,cS,fW] at h
  rename_i l v;rw[←acQ h.2];exact bE (by rw[Qy];exact aS h.1)
 |.l n row,d,h=>by
  cases d<;>simp only[rj,cS,fW,tF] at h
  ·exact gp
  exact aM (.inl aa) (aS h.1) fun r A=>CL (h.2 r A)
 |.e y,d,h=>by cases d<;>simp[rj] at h
 |.x,d,h=>bX
 |.q p,d,h=>by cases d<;>simp[rj] at h
theorem CL:∀{A:List Ty}{z:List DC},uh A z=true→fC A z
 |[],z,h=>by
  cases z with
  |nil=>exact bg
  |cons _ _=>simp[uh] at h
 |t::A,z,h=>by
  cases z with
  |nil=>simp[uh] at h
  |cons d z=>
   simp only[uh,cS] at h;exact aj (Ht h.1) (CL h.2)
end
def A4:DC→Option (ak)
 |.sl r=>some r
 |.nil=>some []
 |_=>none
theorem FM{d:DC}{w:ak}(h:A4 d=some w):aA w d:=by
 cases d<;>simp only[A4,eB,reduceCtorEq] at h
 ·exact .inr ⟨h.symm,aa⟩
 exact .inl (by rw[h])
def aho:List DC→Bool
 |.i _ a::.i _ e::_=>decide (a=0→0≤e)
 |_=>false
def UJ(two:Bool):List DC→Bool
 |[d0,d1,d2,d3,d4,d5,G]=>match A4 d1,A4 d2,A4 d3 with
  |some z,some A,some w3=>rj .b d0&&Nat.ble z.length 30&&(!two||Nat.ble 1 z.length)&&(z.all fun r=>uh xN r)&&Nat.ble A.length 4&&(A.all fun r=>uh [.i .i64 0 4,.i .i64 (-1) ((z.length:Int) -1),.s 1000] r)&&(A.all aho)&&Nat.ble 1 w3.length&&Nat.ble w3.length 2&&(w3.all fun r=>uh xO r)&&rj (.i .i64 (-1) 30) d4&&rj .b d5&&rj (.l 4 [.i .i64 0 ((z.length:Int) -1)]) G
  |_,_,_=>false
 |_=>false
theorem coreB_ok{two:Bool}{r:List DC}(h:UJ two r=true):∃ne,ne≤30∧(two=true→1≤ne)∧fC (RM ne) r:=by
 unfold UJ at h
 split at h
 ·rename_i d0 d1 d2 d3 d4 d5 d6
  split at h
  ·rename_i G I w3 L M O;simp only[cS,tF,m6,gZ] at h;obtain⟨⟨⟨⟨⟨⟨⟨⟨⟨⟨⟨⟨U,Y⟩,z⟩,Z⟩,a4⟩,a5⟩,a6⟩,a7⟩,a8⟩,a9⟩,b1⟩,b2⟩,b3⟩:=h;refine⟨G.length,aS Y,fun ht=>?_,aj (Ht U) (aj (bA ⟨G,FM L,aa,fun r A=>CL (Z r A)⟩) (aj (bA ⟨I,FM M,aS a4,fun r A=>CL (a5 r A),fun q a e rest hg ha=>?_⟩) (aj (bA ⟨w3,FM O,aS a7,aS a8,fun r A=>CL (a9 r A)⟩) (aj (Ht b1) (aj (Ht b2) (aj (Ht b3) bg))))))⟩
   ·rcases z with z|z
    ·rw[ht] at z;cases z
    exact aS z
   have:=a6 _ (hZ hg);simp only[aho,eK] at this;exact this ha
  cases h
 cases h
def WB(c o:DC):Bool:=match A4 c,A4 o with
 |some w,some wo=>Nat.ble 1 w.length&&Nat.ble w.length 2&&(w.all fun r=>UJ (Nat.ble 2 w.length) r)&&Nat.ble wo.length 2&&Nat.ble w.length (wo.length+1)&&(wo.all fun r=>uh br r)
 |_,_=>false
theorem selB_ok{T:aN}{c o:DC}(h:WB c o=true)(A:Sound T 320 [.agg [.d c,.d o]] fun r=>∃s:List UInt8,r=dS s):afL T c o:=by
 unfold WB at h
 split at h
 ·rename_i w wo G I;simp only[cS,tF] at h;obtain⟨⟨⟨⟨⟨L,M⟩,O⟩,U⟩,Y⟩,Z⟩:=h;refine⟨w,wo,FM G,aS L,aS M,fun r z=>?_,FM I,aS U,aS Y,fun r z=>CL (Z r z),A⟩;obtain⟨ne,k1,k2,k3⟩:=coreB_ok (O r z);exact⟨ne,k1,fun k=>k2 (gF k),k3⟩
 cases h
def ajZ(el:Nat→Nat)(c o:DC)(l s:Nat):Bool:=match Wz el [c,o] 100 with
 |(n1,t1,z)=>match sv Fh .leaf .leaf 300 300 320 [.agg z] (iq n1 t1) with
  |.ok (.str A s') _=>Nat.beq A l&&Nat.beq s' s
  |_=>false
def Po(el:Nat→Nat)(l s:Nat):Bool:=match sv Fh .leaf .leaf 300 300 213 [.str l s] (H0 100) with
 |.ok (.tuple [.agg [a,b],.int .i64 z,.int .i64 e]) H1=>_root_.Go.Ev.A3 H1 (.tuple [.agg [a,b],.int .i64 z,.int .i64 e]) 100 (reach H1.t 6 (BU (.tuple [.agg [a,b],.int .i64 z,.int .i64 e])))&&decide (-9223372036854775808≤z∧z≤9223372036854775807)&&decide (-9223372036854775808≤e∧e≤9223372036854775807)&&(match Ch H1.t H1.next 6 a,Ch H1.t H1.next 6 b with
  |some c,some o=>j' [c,o]&&(!decide (e=0)||(WA l s&&WB c o&&ajZ el c o l s))
  |_,_=>false)
 |_=>false
theorem txB_ok{T:aN}(p1:T.ft.get 213=none)(p2:T.xt.get 213=none)(p3:T.zt.get 213=some (told Fh .leaf 300 100 213))(q1:T.ft.get 320=none)(q2:T.xt.get 320=none)(q3:T.zt.get 320=some (yd Fh .leaf 300 100 320)){I:List UInt8}(Y:I.length≤1000)(h:∀el,Po el I.length (pack I)=true):xi T I:=by
 have h0:=h fun _=>0
 unfold Po at h0
 split at h0
 ·rename_i a b z e H1 O;simp only[cS,eK] at h0;obtain⟨⟨⟨Z,k2⟩,k3⟩,A⟩:=h0
  split at A
  ·rename_i c o U ho;simp only[cS,m6,gZ,ij] at A;obtain⟨A,k5⟩:=A;simp only[j',cS] at A;have hs:=sound_told (T:=T) p1 p2 p3 O Z A.1 A.2.1 (afp _ _ _ U) (afp _ _ _ ho);refine⟨Y,hs.mono fun r hr=>⟨c,o,z,e,hr,k2,k3,fun h0=>?_⟩⟩;obtain⟨⟨s1,s2⟩,s3⟩:=k5.resolve_left (fun k=>k h0);refine selB_ok s2 (sound_toldD q1 q2 q3 (l:=I.length) (s:=pack I) (by simp only[j',cS];exact A) (fun el=>?_) (acQ s1));have L:=h el;unfold Po at L;rw[O] at L;simp only[U,ho,cS,m6,gZ,ij] at L;obtain⟨_,_,k6⟩:=L;obtain⟨_,G⟩:=k6.resolve_left (fun k=>k h0);unfold ajZ at G;generalize Wz el [c,o] 100=q at G⊢;obtain⟨n1,t1,az⟩:=q;simp only at G⊢
   split at G
   ·rename_i l' s' H' M;simp only[cS] at G;rw[←cq G.1,←cq G.2];exact⟨H',M⟩
   cases G
  cases A
 cases h0
end Go.Ev.Rp
namespace Go.Ev.Rp
open Go Go.Ev.Pp
def nS:List (List UInt8):=[[48],[49],[45,32,49],[78,85,76,76]]
def sS:List (List UInt8):=[[39,39],[39,97,39],[39,98,39,39,39]]
def tS:List (List UInt8):=[[116],[117]]
def uS:List (List UInt8):=[[117],[116]]
def tl(k a b c d:Nat):List UInt8:=((Xd (nS.getD a []) (sS.getD b []) (tS.getD c []) (uS.getD d []))[k]?).getD []
def ck(el:Nat→Nat)(l:List UInt8):Bool:=Nat.ble l.length 1000&&Po el l.length (pack l)
end Go.Ev.Rp
